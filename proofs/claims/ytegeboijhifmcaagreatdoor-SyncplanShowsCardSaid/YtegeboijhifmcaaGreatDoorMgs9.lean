/- A part of the proof. -/
import Derived.Test.YtegeboijhifmcaaGreatDoorMgs7
import Derived.Test.YtegeboijhifmcaaGreatDoorMgs8
set_option linter.unusedVariables false
set_option linter.unusedSimpArgs false
set_option maxHeartbeats 4000000
set_option maxRecDepth 100000
namespace Go.Proofs.YtegeboijhifmcaaGreatDoor
open Go.Proofs.Tryz
open Go.RowKit
open Go.Sort (grow)
def z4s (x:Syn):List Hav:=if x.dst=z2l then [] else [⟨x.path,x.num,x.dst⟩]
def z4t (x:Syn):List Hav:=if z3o x.kind then [] else z4s x
def z4u (p:ByteArray):List Syn→List Hav
 | []=>[]
 | x :: r=>if z2u x.path p<0 then z4t x++z4u p r else []
def z4v (p:ByteArray):List Syn→List Syn
 | []=>[]
 | x :: r=>if z2u x.path p<0 then z4v p r else x :: r
def z4w (h:Hav):List Syn→List Hav
 | []=>[h]
 | x :: r=>if x.path=h.path then (if z3o x.kind then [h] else z4s x) else [h]
def z4x (h:Hav):List Syn→List Syn
 | []=>[]
 | x :: r=>if x.path=h.path then r else x :: r
def z4y:List Hav→List Syn→List Hav
 | [],ps=>ps.flatMap z4t
 | h :: hs,ps=>z4u h.path ps++z4w h (z4v h.path ps)++z4y hs (z4x h (z4v h.path ps))
def z4z (w:World)(v:Value)(l:List Syn):Prop:=Row w 5 v l.length (l.flatMap Syn.cells)
def z50 (w:World)(a:Addr)(x:Syn):Prop:=w.cell? a=some (.int .i64 x.kind)∧w.cell? ⟨a.block,a.off+1,none⟩=some (.string x.path)∧w.cell? ⟨a.block,a.off+2,none⟩=some (.int .i64 x.num)∧w.cell? ⟨a.block,a.off+3,none⟩=some (.string x.frm)∧w.cell? ⟨a.block,a.off+4,none⟩=some (.string x.dst)
theorem z4z.at_ {w:World}{A:Option Addr}{c:Nat}{l:List Syn}(h:z4z w (.slice A l.length c) l){k:Nat}(hk:k<l.length):
  ∃ ad,A=some ad∧ad.block<w.heap.size∧z50 w (ad.add (k * 5)) l[k]:=by
 obtain⟨ad,e,hb,hc⟩:=z49 (f:=Syn.cells) (n:=5) (fun _=>rfl) h hk;exact⟨ad,e,hb,hc 0 _ rfl,hc 1 _ rfl,hc 2 _ rfl,hc 3 _ rfl,hc 4 _ rfl⟩
theorem z4z.head {w:World}{A:Option Addr}{c n:Nat}{x:Syn}{r:List Syn}(h:z4z w (.slice A n c) (x :: r)):
  n=r.length+1∧∃ ad,A=some ad∧ad.block<w.heap.size∧z50 w ad x:=by
 have hn:n=(x :: r).length:=by obtain⟨A',c',e,-⟩:=id h;injection e
 subst hn;obtain⟨ad,e,hb,hc⟩:=z4z.at_ (k:=0) h (by simp)
 refine⟨rfl,ad,e,hb,?_⟩;have:ad.add (0 * 5)=ad:=by unfold Addr.add;simp
 rw[this] at hc;exact hc
theorem z4z.below {w w':World}{v:Value}{l:List Syn}(h:z4z w v l)(hb:Below w.heap.size w w'):z4z w' v l:=Row.below h hb
theorem z4b.below {w w':World}{v:Value}{l:List Hav}(h:z4b w v l)(hb:Below w.heap.size w w'):z4b w' v l:=Row.below h hb
theorem z52 (w:World):(sizeOf 48).run prog w=.ok 5 w:=by kernel_rfl
theorem z4z.tail {w:World}{A:Option Addr}{c n:Nat}{x:Syn}{r:List Syn}(h:z4z w (.slice A n c) (x :: r)):
  ∃ A' c',(Instr.sliceAt 35 (.slice A n c) (some (.int .i64 1)) none none).run prog w=.ok (.slice A' r.length c') w∧z4z w (.slice A' r.length c') r:=by
 have hn:n=(x :: r).length:=by obtain⟨A',c',e,-⟩:=id h;injection e
 subst hn;obtain⟨A',c',h1,h2⟩:=z0b (P:=prog) (w:=w) (x:=1) (kx:=.i64) (lo:=1) underlying35 z52 h (by simp) rfl
 exact⟨A',c',h1,h2⟩
theorem z54:z0e prog 28 44 3 40:=z0f underlying28 (z:=.agg #[.string ⟨#[]⟩,.int .i64 0,.string ⟨#[]⟩]) (by kernel_rfl) rfl (by decide)
structure Aft (w0 w:World)(b:Nat)(l:List Hav)(v:Value):Prop where
 bel:Below b w0 w
 box:Blk w b 28 [v]
 row:w.ownsRow (b+1) 44 3 v l.length (l.flatMap Hav.cells)
def Kp (b:Nat)(w w':World)(v v':Value):Prop:=w.heap.size≤w'.heap.size∧∀ k,k<w.heap.size→k≠b→v.ownBlock≠some k→w'.heap[k]? = w.heap[k]?∧v'.ownBlock≠some k
theorem Kp.refl (b:Nat)(w:World)(v:Value):Kp b w w v v:=⟨Nat.le_refl _,fun k _ _ h=>⟨rfl,h⟩⟩
theorem Kp.below {b:Nat}{w w':World}{v:Value}(h:Below w.heap.size w w'):Kp b w w' v v:=⟨h.size,fun k hk _ h2=>⟨h.block k hk,h2⟩⟩
theorem Kp.trans {b:Nat}{w w' w2:World}{v v' v2:Value}(h:Kp b w w' v v')(h2:Kp b w' w2 v' v2):Kp b w w2 v v2:=
 ⟨Nat.le_trans h.1 h2.1,fun k hk hb hv=>by
  obtain⟨a1,a2⟩:=h.2 k hk hb hv;obtain⟨c1,c2⟩:=h2.2 k (Nat.lt_of_lt_of_le hk h.1) hb a2;exact⟨c1.trans a1,c2⟩⟩
theorem Kp.blk {b g:Nat}{w w':World}{v v':Value}{e:TypeId}{cs:List Value}(h:Kp b w w' v v')(hB:Blk w g e cs)(hg:g≠b)(hv:v.ownBlock≠some g):Blk w' g e cs∧v'.ownBlock≠some g:=by
 obtain⟨a1,a2⟩:=h.2 g hB.lt hg hv;exact⟨a1.trans hB,a2⟩
theorem Aft.under {w0 w X:World}{b:Nat}{l:List Hav}{v:Value}(h:Aft w0 w b l v)(hX:Below w.heap.size w X):Aft w0 X b l v:=
 ⟨h.bel.trans (hX.mono (Nat.le_of_lt h.box.lt)),h.box.below hX h.box.lt,z0n h.row hX⟩
theorem z55 (x:Hav):∀ v∈x.cells,v.oneCell'=true:=by
 intro v hv;simp only[Hav.cells,List.mem_cons,List.not_mem_nil,or_false] at hv
 rcases hv with rfl | rfl | rfl <;> rfl
theorem z56 {α β:Type}(f:α→List β)(l:List α)(x:α):(l++[x]).flatMap f=l.flatMap f++f x:=by simp
theorem Aft.push {w0 w w2:World}{b:Nat}{l:List Hav}{v:Value}{x:Hav}{A':Option Addr}{c':Nat}(h:Aft w0 w b l v)
  (hown:w2.ownsRow (b+1) 44 3 (.slice A' (l.length+1) c') (l.length+1) (l.flatMap Hav.cells++x.cells)) (hgr:w.grownBy w2 v.ownBlock)
  (hob:(Value.slice A' (l.length+1) c').ownBlock=v.ownBlock∨(Value.slice A' (l.length+1) c').ownBlock=some w.heap.size):
  Aft w0 (w2.setCell ⟨b,0,none⟩ (.slice A' (l.length+1) c')) b (l++[x]) (.slice A' (l.length+1) c')∧Kp b w (w2.setCell ⟨b,0,none⟩ (.slice A' (l.length+1) c')) v (.slice A' (l.length+1) c'):=by
 have hl:=h.box.lt;have hb1:∀ k,v.ownBlock=some k→b<k:=fun k e=>by have:=(h.row.lt k e).1;omega
 have hbx:some b≠v.ownBlock:=fun e=>by have:=hb1 b e.symm;omega
 have hbel:Below b w0 w2:=h.bel.grown hgr (Nat.le_of_lt hl) (fun k e=>by have:=hb1 k e;omega)
 have hne:(Value.slice A' (l.length+1) c').ownBlock≠some b:=by
  rcases hob with e | e
  ·rw[e];exact fun e=>hbx e.symm
  ·rw[e];intro e2;injection e2 with e2;omega
 refine⟨⟨hbel.setCell (p:=⟨b,0,none⟩) (Nat.le_refl _) _,(Blk.grown h.box hgr hbx).set_ 0 _,?_⟩,?_,fun k hk hkb hv=>⟨?_,?_⟩⟩
 ·rw[List.length_append,List.length_singleton,z56];exact z4r hown (p:=⟨b,0,none⟩) hne _
 ·simpa using hgr.size
 ·rw[Below.heap_setCell w2 _ _ k hkb];exact hgr.block k hk (fun e=>hv e.symm)
 ·rcases hob with e | e
  ·rw[e];exact hv
  ·rw[e];intro e2;injection e2 with e2;omega
theorem Aft.alloc {w0 w:World}{b:Nat}{l:List Hav}{v:Value}(h:Aft w0 w b l v)(o:Obj):Aft w0 (w.alloc o) b l v:=h.under ((Below.refl _ _).alloc (Nat.le_refl _) _)
theorem z57 {x:Syn}(h:x.dst=z2l):z4s x=[]:=if_pos h
theorem addS_no {x:Syn}(h:¬ x.dst=z2l):z4s x=[⟨x.path,x.num,x.dst⟩]:=if_neg h
theorem z58 (x:Syn)(w0 w:World)(b:Nat)(l:List Hav)(v:Value)(hA:Aft w0 w b l v)(hl:(l.length+1) * 40≤140737488355328):
  Calls prog 63 #[.agg #[.int .i64 x.kind,.string x.path,.int .i64 x.num,.string x.frm,.string x.dst],.pointer (some ⟨b,0,none⟩)] w fun e w'=>e=.returned (.tuple #[])∧∃ v',Aft w0 w' b (l++z4s x) v'∧Kp b w w' v v':=by
 have hA1:=hA.alloc (.cells #[.int .i64 x.kind,.string x.path,.int .i64 x.num,.string x.frm,.string x.dst] 48);have hK1:Kp b w (w.alloc (.cells #[.int .i64 x.kind,.string x.path,.int .i64 x.num,.string x.frm,.string x.dst] 48)) v v:=Kp.below ((Below.refl _ _).alloc (Nat.le_refl _) _);have hS:=z0l w [.int .i64 x.kind,.string x.path,.int .i64 x.num,.string x.frm,.string x.dst] 48;by_cases h1:x.dst=z2l
 ·have HK:=hd_ (z57 h1);obtain⟨s1,s2⟩:=z3v h1;have HA:=hd_ hA1;have HKp:=hd_ hK1;clear h1 hA hA1 hK1 hS;go_enter func63,ntmps63;go_wp2_with fail;go_end0
  exact⟨rfl,_,by rw[HK.out,List.append_nil];exact HA.out,HKp.out⟩
 ·have HK:=hd_ (addS_no h1);obtain⟨s1,s2⟩:=z3w h1;obtain⟨s3,s4,s5,s6,s7⟩:=z3r (x:=x) hS;have hbx:(w.alloc (.cells #[.int .i64 x.kind,.string x.path,.int .i64 x.num,.string x.frm,.string x.dst] 48)).cell? ⟨b,0,none⟩=some v:=hA1.box.cell 0;have hA2:=hA1.alloc (.cells #[.string x.path,.int .i64 x.num,.string x.dst] 44);have hK2:Kp b w ((w.alloc (.cells #[.int .i64 x.kind,.string x.path,.int .i64 x.num,.string x.frm,.string x.dst] 48)).alloc (.cells #[.string x.path,.int .i64 x.num,.string x.dst] 44)) v v:=Kp.below (((Below.refl _ _).alloc (Nat.le_refl _) _).alloc (by simp) _)
  have hrow:=z0i (w.alloc (.cells #[.int .i64 x.kind,.string x.path,.int .i64 x.num,.string x.frm,.string x.dst] 48)) [.string x.path,.int .i64 x.num,.string x.dst] 44 3 1 rfl (by unfold maxLen;omega) (w.heap.size+1) (by simp)
  obtain⟨A0,c0,rfl⟩:=z0o hA.row;have hsz:b+1≤((w.alloc (.cells #[.int .i64 x.kind,.string x.path,.int .i64 x.num,.string x.frm,.string x.dst] 48)).alloc (.cells #[.string x.path,.int .i64 x.num,.string x.dst] 44)).heap.size:=by have:=hA.box.lt;simp;omega
  clear h1 hA hA1 hK1 hS;go_enter func63,ntmps63;go_wp2_with (at_builtin;refine z0j rfl rfl z54 hA2.row rfl hrow rfl (z55 ⟨x.path,x.num,x.dst⟩) hl (by unfold maxLen;omega) hsz ?_;intro A' c' w2 hown hgr hob;obtain⟨hA3,hK3⟩:=hA2.push (x:=⟨x.path,x.num,x.dst⟩) hown hgr hob;have hbw:=Blk.grown hA2.box hgr (fun e=>by have:=(hA2.row.lt b e.symm).1;omega);have hfz:=hbw.frozen 0;have hcl:w2.cell? ⟨b,0,none⟩=some (.slice A0 l.length c0):=hbw.cell 0)
  go_end0
  exact⟨rfl,_,by rw[HK.out];exact hA3,hK2.trans hK3⟩
theorem zhh (a b:ByteArray)(w:World):Calls prog 211 #[.string a,.string b] w fun e w'=>e=.returned (.int .i64 (Lib.compareBytes a.data.toList b.data.toList))∧w=w':=
 (Tryz.strings_Compare a b w).mono fun e w' ⟨h1,h2⟩=>⟨h1,h2.symm⟩
def zhi (ps qs:List (List UInt8))(k:Nat):Prop:=zh8 (ps.drop k) (qs.drop k)=zh8 ps qs
theorem zhj {ps qs:List (List UInt8)}{k:Nat}(h1:k<ps.length)(h2:k<qs.length)(h:zhi ps qs k):(Lib.compareBytes ps[k] qs[k]=0→zhi ps qs (k+1))∧(Lib.compareBytes ps[k] qs[k]≠0→zh8 ps qs=Lib.compareBytes ps[k] qs[k]):=by
 unfold zhi at h ⊢
 rw[List.drop_eq_getElem_cons h1,List.drop_eq_getElem_cons h2,zh8] at h;refine⟨fun h0=>?_,fun h0=>?_⟩
 ·rw[if_pos h0] at h;exact h
 ·rw[if_neg h0] at h;exact h.symm
theorem zhk {ps qs:List (List UInt8)}{k:Nat}(h:zhi ps qs k)(hk:k≤ps.length)(hk2:k≤qs.length)(he:k=ps.length∨k=qs.length):zh8 ps qs=if ps.length<qs.length then -1 else if qs.length<ps.length then 1 else 0:=by
 unfold zhi at h;rw[← h];rcases he with rfl | rfl
 ·rw[List.drop_length];by_cases hq:ps.length<qs.length
  ·rw[if_pos hq,List.drop_eq_getElem_cons hq];rfl
  ·have:ps.length=qs.length:=by omega
   rw[if_neg hq,if_neg (by omega),this,List.drop_length];rfl
 ·rw[List.drop_length];by_cases hq:qs.length<ps.length
  ·rw[if_neg (by omega),if_pos hq,List.drop_eq_getElem_cons hq];rfl
  ·have:ps.length=qs.length:=by omega
   rw[if_neg (by omega),if_neg hq,← this,List.drop_length];rfl
theorem zhl (ps qs:List (List UInt8))(g1 g2:Nat)(w:World)(hp:z8k w g1 0 ps)(hq:z8k w g2 0 qs)(h1:ps.length≤2000001)(h2:qs.length≤2000001):
  Calls prog 212 #[.slice (some ⟨g1,0,none⟩) ps.length ps.length,.slice (some ⟨g2,0,none⟩) qs.length qs.length] w fun e w'=>e=.returned (.int .i64 (zh8 ps qs))∧Below w.heap.size w w':=by
 have HP:=hd_ hp;have HQ:=hd_ hq;have HC:=hd_ (fun a b X=>zhh a b X);clear hp hq;go_enter func212,ntmps212;go_wp2_with fail;go_loopw [5] (fun s wr=>∃ k:Nat,s=.int .i64 k∧k≤ps.length∧k≤qs.length∧Hid (zhi ps qs k∧Below w.heap.size w wr)) (fun s _=>ps.length - (intOf s).toNat)
 case atStart=>exact⟨0,rfl,Nat.zero_le _,Nat.zero_le _,rfl,Below.refl _ _⟩
 case round =>
  obtain⟨k,rfl,hk,hk2,HI⟩:=hrel;by_cases hlt:k<ps.length
  ·by_cases hlt2:k<qs.length
   ·have hx:wr.cell? ⟨g1,k,none⟩=some (.string (baL ps[k])):=by
     have h:=HP.out k hlt;rw[Nat.zero_add] at h;exact z04 h HI.out.2 (z03 h)
    have hy:wr.cell? ⟨g2,k,none⟩=some (.string (baL qs[k])):=by
     have h:=HQ.out k hlt2;rw[Nat.zero_add] at h;exact z04 h HI.out.2 (z03 h)
    have HN:=hd_ (zhj hlt hlt2 HI.out.1);have z1:(k:Int)<(ps.length:Int):=by omega
    have z2:(k:Int)<(qs.length:Int):=by omega
    have d1:decide (k<ps.length)=true:=by simp;omega
    have d2:decide (k<qs.length)=true:=by simp;omega
    generalize ps[k]=x at hx HN;generalize qs[k]=y at hy HN;go_wp2_with fail;go_quiet ((go_at_call 211;exact z3k (zhh _ _ _)))
    clear hx hy d1 d2;have HB:Hid (Below w.heap.size w (wr.drewN nq)):=hd_ (z0p HI.out.2 nq);generalize wr.drewN nq=wz at HB ⊢;rw[z6w,z6w];by_cases h0:Lib.compareBytes x y=0
    ·have HA:=hd_ (HN.out.1 h0);rw[h0];clear h0 HN;go_wp2_with fail;go_roundw
     case rel=>exact⟨k+1,by go_num,by omega,by omega,HA.out,HB.out⟩
     case measure=>simp [intOf];omega
    ·have HA:=hd_ (HN.out.2 h0);have q:(Lib.compareBytes x y != 0)=true:=by simpa using h0
     generalize Lib.compareBytes x y=c at HA q;clear h0 HN;go_wp2_with fail;go_ret;exact⟨by rw[HA.out];rfl,HB.out⟩
   ·have d1:decide (k<ps.length)=true:=by simp;omega
    have d2:decide (k<qs.length)=false:=by simp;omega
    have HA:=hd_ (zhk HI.out.1 hk hk2 (.inr (by omega)))
    have d3:decide (ps.length<qs.length)=false:=by simp;omega
    have d4:decide (qs.length<ps.length)=true:=by simp;omega
    have HV:Hid ((if ps.length<qs.length then (-1:Int) else if qs.length<ps.length then 1 else 0)=1):=hd_ (by rw[if_neg (by omega),if_pos (by omega)])
    go_wp2_with fail;go_ret;exact⟨by rw[HA.out,HV.out];rfl,HI.out.2⟩
  ·have d1:decide (k<ps.length)=false:=by simp;omega
   have HA:=hd_ (zhk HI.out.1 hk hk2 (.inl (by omega)))
   by_cases hq:ps.length<qs.length
   ·have d3:decide (ps.length<qs.length)=true:=by simp;omega
    have HV:Hid ((if ps.length<qs.length then (-1:Int) else if qs.length<ps.length then 1 else 0)=-1):=hd_ (by rw[if_pos (by omega)])
    go_wp2_with fail;go_ret;exact⟨by rw[HA.out,HV.out];rfl,HI.out.2⟩
   ·have d3:decide (ps.length<qs.length)=false:=by simp;omega
    have d4:decide (qs.length<ps.length)=false:=by simp;omega
    have HV:Hid ((if ps.length<qs.length then (-1:Int) else if qs.length<ps.length then 1 else 0)=0):=hd_ (by rw[if_neg (by omega),if_neg (by omega)])
    go_wp2_with fail;go_ret;exact⟨by rw[HA.out,HV.out];rfl,HI.out.2⟩
def OrdPost (w:World)(a b:ByteArray)(e:Ending)(w':World):Prop:=∃ n:Int,e=.returned (.int .i64 n)∧Below w.heap.size w w'∧(z2s a=true→z2s b=true→n=z2u a b)
theorem zhm {a:ByteArray}(h:z2q a.data.toList 2=none):z2s a=false:=by unfold z2s z2r;rw[h];rfl
def zhn (a b:ByteArray):Int:=match z2q a.data.toList 2,z2q b.data.toList 2 with
 | none,none=>Lib.compareBytes a.data.toList b.data.toList
 | none,some _=>-1
 | some _,none=>1
 | some ps,some qs=>zh8 ps qs
theorem zho {a b:ByteArray}(ha:z2s a=true)(hb:z2s b=true):zhn a b=z2u a b:=by
 unfold zhn;cases hda:z2q a.data.toList 2 with
 | none=>rw[zhm hda] at ha;cases ha
 | some ps =>
  cases hdb:z2q b.data.toList 2 with
  | none=>rw[zhm hdb] at hb;cases hb
  | some qs=>exact (zhg hda hdb).symm
theorem zhp (a b:ByteArray)(w:World)(he:Env w)(ha:a.size≤2000000)(hb:b.size≤2000000):
  Calls prog 175 #[.string a,.string b] w fun e w'=>e=.returned (.int .i64 (zhn a b))∧Below w.heap.size w w':=by
 have HE:=hd_ he;clear he;have HC:=hd_ (fun a b X=>zhh a b X);cases hda:z2q a.data.toList 2 with
 | none =>
  have HVA:=hd_ (zhm hda);have HA:=hd_ (z92 a w HE.out ha hda);cases hdb:z2q b.data.toList 2 with
  | none =>
   have HB:=hd_ (fun X (hX:Below w.heap.size w X)=>z92 b X (HE.out.below hX) hb hdb);have HF:Hid (zhn a b=Lib.compareBytes a.data.toList b.data.toList):=hd_ (by unfold zhn;rw[hda,hdb])
   clear hda hdb;go_enter func175,ntmps175;go_wp2_with fail;refine HA.out.mono ?_;rintro e w1 ⟨rfl,hb1⟩;have HB1:=hd_ (HB.out w1 hb1);have H1:=hd_ hb1;clear hb1;go_wp2_with fail;refine HB1.out.mono ?_;rintro e w2 ⟨rfl,hb2⟩;have H2:=hd_ hb2;clear hb2;go_wp2_with fail;refine (HC.out a b w2).mono ?_;rintro e w3 ⟨rfl,rfl⟩;go_wp2_with fail;go_ret;exact⟨z34 HF.out.symm,z0r H1.out H2.out⟩
  | some qs =>
   have HB:=hd_ (fun X (hX:Below w.heap.size w X)=>z91 b qs X (HE.out.below hX) hb hdb);have HF:Hid (zhn a b=-1):=hd_ (by unfold zhn;rw[hda,hdb])
   clear hda hdb;go_enter func175,ntmps175;go_wp2_with fail;refine HA.out.mono ?_;rintro e w1 ⟨rfl,hb1⟩;have HB1:=hd_ (HB.out w1 hb1);have H1:=hd_ hb1;clear hb1;go_wp2_with fail;refine HB1.out.mono ?_;rintro e w2 ⟨rfl,rfl⟩;have H2:Hid (Below w1.heap.size w1 (w1.alloc (.cells (z6v qs).toArray 9))):=hd_ ((Below.refl _ _).alloc (Nat.le_refl _) _);generalize w1.alloc (.cells (z6v qs).toArray 9)=w2 at H2 ⊢;go_wp2_with fail;go_ret;exact⟨z34 HF.out.symm,z0r H1.out H2.out⟩
 | some ps =>
  have HA:=hd_ (z91 a ps w HE.out ha hda);have hA1:Below w.heap.size w (w.alloc (.cells (z6v ps).toArray 9)):=(Below.refl _ _).alloc (Nat.le_refl _) _;have hS1:=z8k.of_blk (z0l w (z6v ps) 9);cases hdb:z2q b.data.toList 2 with
  | none =>
   have HVB:=hd_ (zhm hdb);have HB:=hd_ (fun X (hX:Below w.heap.size w X)=>z92 b X (HE.out.below hX) hb hdb);have HF:Hid (zhn a b=1):=hd_ (by unfold zhn;rw[hda,hdb])
   clear hda hdb;go_enter func175,ntmps175;go_wp2_with fail;refine HA.out.mono ?_;rintro e w1 ⟨rfl,rfl⟩;have HB1:=hd_ (HB.out _ hA1);have H1:=hd_ hA1;clear hA1 hS1;generalize w.alloc (.cells (z6v ps).toArray 9)=w1 at HB1 H1 ⊢;go_wp2_with fail;refine HB1.out.mono ?_;rintro e w2 ⟨rfl,hb2⟩;have H2:=hd_ hb2;clear hb2;go_wp2_with fail;go_ret;exact⟨z34 HF.out.symm,z0r H1.out H2.out⟩
  | some qs =>
   have HB:=hd_ (fun X (hX:Below w.heap.size w X)=>z91 b qs X (HE.out.below hX) hb hdb);have HCM:=hd_ (zhg hda hdb);have hlp:ps.length≤2000001∧qs.length≤2000001:=by
    have k1:ps=z1a (a.data.toList.drop 2):=by unfold z2q at hda;split at hda;(injection hda with h;exact h.symm);cases hda
    have k2:qs=z1a (b.data.toList.drop 2):=by unfold z2q at hdb;split at hdb;(injection hdb with h;exact h.symm);cases hdb
    rw[k1,k2];exact⟨(z8x a 2 ha).1,(z8x b 2 hb).1⟩
   have HLP:=hd_ hlp;have HF:Hid (zhn a b=zh8 ps qs):=hd_ (by unfold zhn;rw[hda,hdb])
   clear hda hdb hlp;go_enter func175,ntmps175;go_wp2_with fail;refine HA.out.mono ?_;rintro e w1 ⟨rfl,rfl⟩;have HB1:=hd_ (HB.out _ hA1);have H1:=hd_ hA1;have HS1:=hd_ hS1;clear hA1 hS1;generalize w.alloc (.cells (z6v ps).toArray 9)=w1 at HB1 H1 HS1 ⊢;go_wp2_with fail;refine HB1.out.mono ?_;rintro e w2 ⟨rfl,rfl⟩;have hA2:Below w1.heap.size w1 (w1.alloc (.cells (z6v qs).toArray 9)):=(Below.refl _ _).alloc (Nat.le_refl _) _;have HS2:=hd_ (z8k.of_blk (z0l w1 (z6v qs) 9));have HS3:=hd_ (HS1.out.below hA2);have H2:=hd_ hA2;clear hA2;generalize w1.alloc (.cells (z6v qs).toArray 9)=w2 at HS2 HS3 H2 ⊢;have HCP:=hd_ (zhl ps qs w.heap.size w1.heap.size w2 HS3.out HS2.out HLP.out.1 HLP.out.2);go_wp2_with fail;refine HCP.out.mono ?_;rintro e w3 ⟨rfl,hb3⟩;have H3:=hd_ hb3;clear hb3;go_wp2_with fail;go_ret;exact⟨z34 HF.out.symm,z0r H1.out (z0r H2.out H3.out)⟩
theorem zhq (a b:ByteArray)(w:World)(he:Env w)(ha:a.size≤2000000)(hb:b.size≤2000000):
  Calls prog 175 #[.string a,.string b] w (OrdPost w a b):=
 (zhp a b w he ha hb).mono fun e w' ⟨h1,h2⟩=>⟨_,h1,h2,fun h3 h4=>zho h3 h4⟩
end Go.Proofs.YtegeboijhifmcaaGreatDoor
