/- A part. -/
import Derived.Test.YtijghobkkdbhnaaGreatDoorMgw12
set_option linter.unusedVariables false
set_option linter.unusedSimpArgs false
set_option maxHeartbeats 4000000
set_option maxRecDepth 100000
namespace Go.Proofs.YtijghobkkdbhnaaGreatDoor
open Go.Proofs.Tryz
open Go.RowKit
structure zdd where
 l:zd6
 r:zd6
 hv:Value
 hs:List zd6
def zdd.cells (x:zdd):List Value:=[x.l.v,.bool x.l.1.rest,x.r.v,.bool x.r.1.rest,x.hv]
def zdd.val (x:zdd):Value:=.agg #[x.l.v,.bool x.l.1.rest,x.r.v,.bool x.r.1.rest,x.hv]
structure zde (w:World)(x:zdd):Prop where
 l:zae w x.l.v x.l.1
 r:zae w x.r.v x.r.1
 h:zd7 w x.hv x.hs
 n:x.hs.length≤1000
theorem zde.below {w w':World}{x:zdd}(h:zde w x)(hb:Below w.heap.size w w'):zde w' x:=⟨h.l.below hb,h.r.below hb,h.h.below hb,h.n⟩
theorem zdf (A B:Option Addr)(n m a b:Nat)(x y:Bool)(h0:Value)(w:World):Calls prog 120 #[.agg #[(.slice A n a),(.bool x),(.slice B m b),(.bool y),h0]] w fun e w'=>e=.returned (.agg #[.bool false,(.slice A n a),(.bool x),(.slice B m b),(.bool y)])∧Below w.heap.size w w':=by
 have hB:=z0l w [(.slice A n a),(.bool x),(.slice B m b),(.bool y),h0] 71;have hA:Below w.heap.size w (w.alloc (.cells #[(.slice A n a),(.bool x),(.slice B m b),(.bool y),h0] 71)):=(Below.refl _ _).alloc (Nat.le_refl _) _;go_enter func120,ntmps120;go_upto_region 1 with fail;have hZ:=z0l (w.alloc (.cells #[(.slice A n a),(.bool x),(.slice B m b),(.bool y),h0] 71)) [.bool false,.slice none 0 0,.bool false,.slice none 0 0,.bool false] 74;rw[World.size_alloc] at hZ;have hB1:=hB.alloc (.cells #[.bool false,.slice none 0 0,.bool false,.slice none 0 0,.bool false] 74);have hA1:=hA.alloc (by simp:w.heap.size≤_) (.cells #[.bool false,.slice none 0 0,.bool false,.slice none 0 0,.bool false] 74)
 generalize (w.alloc (.cells #[(.slice A n a),(.bool x),(.slice B m b),(.bool y),h0] 71)).alloc (.cells #[.bool false,.slice none 0 0,.bool false,.slice none 0 0,.bool false] 74)=W1 at hZ hB1 hA1 ⊢;obtain⟨d0,d1,d2,d3⟩:=(⟨hB1.cell 0,hB1.cell 1,hB1.cell 2,hB1.cell 3⟩:W1.cell? ⟨w.heap.size,0,none⟩=some (.slice A n a)∧W1.cell? ⟨w.heap.size,1,none⟩=some (.bool x)∧W1.cell? ⟨w.heap.size,2,none⟩=some (.slice B m b)∧W1.cell? ⟨w.heap.size,3,none⟩=some (.bool y));obtain⟨z0,z1,z2,z3,z4⟩:=(⟨hZ.cell 0,hZ.cell 1,hZ.cell 2,hZ.cell 3,hZ.cell 4⟩:W1.cell? ⟨w.heap.size+1,0,none⟩=some (.bool false)∧W1.cell? ⟨w.heap.size+1,1,none⟩=some (.slice none 0 0)∧W1.cell? ⟨w.heap.size+1,2,none⟩=some (.bool false)∧W1.cell? ⟨w.heap.size+1,3,none⟩=some (.slice none 0 0)∧W1.cell? ⟨w.heap.size+1,4,none⟩=some (.bool false));obtain⟨y0,y1,y2,y3,y4⟩:=(⟨hZ.frozen 0,hZ.frozen 1,hZ.frozen 2,hZ.frozen 3,hZ.frozen 4⟩:W1.frozen? ⟨w.heap.size+1,0,none⟩=false∧W1.frozen? ⟨w.heap.size+1,1,none⟩=false∧W1.frozen? ⟨w.heap.size+1,2,none⟩=false∧W1.frozen? ⟨w.heap.size+1,3,none⟩=false∧W1.frozen? ⟨w.heap.size+1,4,none⟩=false);go_wp2_with fail;have hE:=((((hZ.set_ 0 (.bool false)).set_ 1 (.slice A n a)).set_ 2 (.bool x)).set_ 3 (.slice B m b)).set_ 4 (.bool y);have hb:=((((hA1.setCell (p:=⟨w.heap.size+1,0,none⟩) (by simp) (.bool false)).setCell (p:=⟨w.heap.size+1,1,none⟩) (by simp) (.slice A n a)).setCell (p:=⟨w.heap.size+1,2,none⟩) (by simp) (.bool x)).setCell (p:=⟨w.heap.size+1,3,none⟩) (by simp) (.slice B m b)).setCell (p:=⟨w.heap.size+1,4,none⟩) (by simp) (.bool y)
 generalize ((((W1.setCell ⟨w.heap.size+1,0,none⟩ (.bool false)).setCell ⟨w.heap.size+1,1,none⟩ (.slice A n a)).setCell ⟨w.heap.size+1,2,none⟩ (.bool x)).setCell ⟨w.heap.size+1,3,none⟩ (.slice B m b)).setCell ⟨w.heap.size+1,4,none⟩ (.bool y)=W3 at hE hb ⊢;have e0:=hE.cell 0;have e1:=hE.cell 1;have e2:=hE.cell 2;have e3:=hE.cell 3;have e4:=hE.cell 4;exact bodyPost_ret (v:=.agg #[.bool false,.slice A n a,.bool x,.slice B m b,.bool y]) (by simp [results,results120,go_sem,e0,e1,e2,e3,e4]) rfl ⟨rfl,hb⟩
theorem zdg (A H:Option Addr)(n a k c:Nat)(x y:Bool)(r0:Value)(w:World):Calls prog 69 #[.agg #[.slice A n a,.bool x,r0,.bool y,.slice H k c]] w fun e w'=>e=.returned (.agg #[.slice A n a,.bool x,.slice H k c])∧Below w.heap.size w w':=by
 have hB:=z0l w [.slice A n a,.bool x,r0,.bool y,.slice H k c] 71;have hA:Below w.heap.size w (w.alloc (.cells #[.slice A n a,.bool x,r0,.bool y,.slice H k c] 71)):=(Below.refl _ _).alloc (Nat.le_refl _) _;go_enter func69,ntmps69;go_upto_region 1 with fail;have hZ:=z0l (w.alloc (.cells #[.slice A n a,.bool x,r0,.bool y,.slice H k c] 71)) [.slice none 0 0,.bool false,.slice none 0 0] 78;rw[World.size_alloc] at hZ;have hB1:=hB.alloc (.cells #[.slice none 0 0,.bool false,.slice none 0 0] 78);have hA1:=hA.alloc (by simp:w.heap.size≤_) (.cells #[.slice none 0 0,.bool false,.slice none 0 0] 78)
 generalize (w.alloc (.cells #[.slice A n a,.bool x,r0,.bool y,.slice H k c] 71)).alloc (.cells #[.slice none 0 0,.bool false,.slice none 0 0] 78)=W1 at hZ hB1 hA1 ⊢;obtain⟨d0,d1,d4⟩:=(⟨hB1.cell 0,hB1.cell 1,hB1.cell 4⟩:W1.cell? ⟨w.heap.size,0,none⟩=some (.slice A n a)∧W1.cell? ⟨w.heap.size,1,none⟩=some (.bool x)∧W1.cell? ⟨w.heap.size,4,none⟩=some (.slice H k c));obtain⟨z0,z1,z2⟩:=(⟨hZ.cell 0,hZ.cell 1,hZ.cell 2⟩:W1.cell? ⟨w.heap.size+1,0,none⟩=some (.slice none 0 0)∧W1.cell? ⟨w.heap.size+1,1,none⟩=some (.bool false)∧W1.cell? ⟨w.heap.size+1,2,none⟩=some (.slice none 0 0));obtain⟨y0,y1,y2⟩:=(⟨hZ.frozen 0,hZ.frozen 1,hZ.frozen 2⟩:W1.frozen? ⟨w.heap.size+1,0,none⟩=false∧W1.frozen? ⟨w.heap.size+1,1,none⟩=false∧W1.frozen? ⟨w.heap.size+1,2,none⟩=false);go_wp2_with fail;have hE:=((hZ.set_ 0 (.slice A n a)).set_ 1 (.bool x)).set_ 2 (.slice H k c);have hb:=((hA1.setCell (p:=⟨w.heap.size+1,0,none⟩) (by simp) (.slice A n a)).setCell (p:=⟨w.heap.size+1,1,none⟩) (by simp) (.bool x)).setCell (p:=⟨w.heap.size+1,2,none⟩) (by simp) (.slice H k c)
 generalize ((W1.setCell ⟨w.heap.size+1,0,none⟩ (.slice A n a)).setCell ⟨w.heap.size+1,1,none⟩ (.bool x)).setCell ⟨w.heap.size+1,2,none⟩ (.slice H k c)=W3 at hE hb ⊢;have e0:=hE.cell 0;have e1:=hE.cell 1;have e2:=hE.cell 2;exact bodyPost_ret (v:=.agg #[.slice A n a,.bool x,.slice H k c]) (by simp [results,results69,go_sem,e0,e1,e2]) rfl ⟨rfl,hb⟩
theorem zdh (l r:Pat)(hs:List zd6)(A B H:Option Addr)(a b c:Nat)(w:World)(hl:zae w (.slice A l.parts.length a) l)(hr:zae w (.slice B r.parts.length b) r)(hh:zd7 w (.slice H hs.length c) hs)(hn:hs.length≤1000000)(e1:zad l r=0)(e2:zd8 l hs=0):
  Calls prog 66 #[.agg #[.slice A l.parts.length a,.bool l.rest,.slice B r.parts.length b,.bool r.rest,.slice H hs.length c]] w fun e w'=>e=.returned (.bool true)∧Below w.heap.size w w':=by
 have hB:=z0l w [.slice A l.parts.length a,.bool l.rest,.slice B r.parts.length b,.bool r.rest,.slice H hs.length c] 71;have hA:Below w.heap.size w (w.alloc (.cells #[.slice A l.parts.length a,.bool l.rest,.slice B r.parts.length b,.bool r.rest,.slice H hs.length c] 71)):=(Below.refl _ _).alloc (Nat.le_refl _) _;have HLI:=hd_ (fun X=>zdf A B l.parts.length r.parts.length a b l.rest r.rest (.slice H hs.length c) X);have HLE:=hd_ (fun X=>zdg A H l.parts.length a hs.length c l.rest r.rest (.slice B r.parts.length b) X);have HRC:=hd_ (fun X (hX:Below w.heap.size w X)=>zaf false l r A B a b X (hl.below hX) (hr.below hX));have HGC:=hd_ (fun X (hX:Below w.heap.size w X)=>zdc l hs A H a c X (hl.below hX) (hh.below hX) hn);rw[e1] at HRC;rw[e2] at HGC;clear hl hr hh hn e1 e2;go_enter func66,ntmps66;go_upto_region 1 with fail;generalize w.alloc (.cells #[.slice A l.parts.length a,.bool l.rest,.slice B r.parts.length b,.bool r.rest,.slice H hs.length c] 71)=W1 at hA hB ⊢;obtain⟨d0,d1,d2,d3,d4⟩:=(⟨hB.cell 0,hB.cell 1,hB.cell 2,hB.cell 3,hB.cell 4⟩:W1.cell? ⟨w.heap.size,0,none⟩=some (.slice A l.parts.length a)∧W1.cell? ⟨w.heap.size,1,none⟩=some (.bool l.rest)∧W1.cell? ⟨w.heap.size,2,none⟩=some (.slice B r.parts.length b)∧W1.cell? ⟨w.heap.size,3,none⟩=some (.bool r.rest)∧W1.cell? ⟨w.heap.size,4,none⟩=some (.slice H hs.length c));have HB:=hd_ hB;have HA:=hd_ hA;clear hA hB;go_wp2_with fail;refine (HLI.out W1).mono ?_;rintro e w2 ⟨rfl,hb⟩;have HA2:=hd_ (z0r HA.out hb);have HB2:=hd_ (HB.out.below hb HB.out.lt);clear hb d0 d1 d2 d3 d4;go_wp2_with fail;refine (HRC.out w2 HA2.out).mono ?_;rintro e w3 ⟨rfl,hb⟩;have HA3:=hd_ (z0r HA2.out hb);have hB3:=HB2.out.below hb HB2.out.lt;clear hb;obtain⟨d0,d1,d2,d3,d4⟩:=(⟨hB3.cell 0,hB3.cell 1,hB3.cell 2,hB3.cell 3,hB3.cell 4⟩:w3.cell? ⟨w.heap.size,0,none⟩=some (.slice A l.parts.length a)∧w3.cell? ⟨w.heap.size,1,none⟩=some (.bool l.rest)∧w3.cell? ⟨w.heap.size,2,none⟩=some (.slice B r.parts.length b)∧w3.cell? ⟨w.heap.size,3,none⟩=some (.bool r.rest)∧w3.cell? ⟨w.heap.size,4,none⟩=some (.slice H hs.length c))
 clear hB3;go_wp2_with fail;refine (HLE.out w3).mono ?_;rintro e w4 ⟨rfl,hb⟩;have HA4:=hd_ (z0r HA3.out hb);clear hb d0 d1 d2 d3 d4;go_wp2_with fail;refine (HGC.out w4 HA4.out).mono ?_;rintro e w5 ⟨rfl,hb⟩;have HA5:=hd_ (z0r HA4.out hb);clear hb;go_wp2_with fail;go_ret;exact⟨rfl,HA5.out⟩
theorem zho (a b:ByteArray)(w:World):Calls prog 153 #[.string a,.string b] w fun e w'=>e=.returned (.int .i64 (Lib.compareBytes a.data.toList b.data.toList))∧w=w':=
 (Tryz.strings_Compare a b w).mono fun e w' ⟨h1,h2⟩=>⟨h1,h2.symm⟩
def zhp (ps qs:List (List UInt8))(k:Nat):Prop:=zhf (ps.drop k) (qs.drop k)=zhf ps qs
theorem zhq {ps qs:List (List UInt8)}{k:Nat}(h1:k<ps.length)(h2:k<qs.length)(h:zhp ps qs k):(Lib.compareBytes ps[k] qs[k]=0→zhp ps qs (k+1))∧(Lib.compareBytes ps[k] qs[k]≠0→zhf ps qs=Lib.compareBytes ps[k] qs[k]):=by
 unfold zhp at h ⊢
 rw[List.drop_eq_getElem_cons h1,List.drop_eq_getElem_cons h2,zhf] at h;refine⟨fun h0=>?_,fun h0=>?_⟩
 ·rw[if_pos h0] at h;exact h
 ·rw[if_neg h0] at h;exact h.symm
theorem zhr {ps qs:List (List UInt8)}{k:Nat}(h:zhp ps qs k)(hk:k≤ps.length)(hk2:k≤qs.length)(he:k=ps.length∨k=qs.length):zhf ps qs=if ps.length<qs.length then -1 else if qs.length<ps.length then 1 else 0:=by
 unfold zhp at h;rw[← h];rcases he with rfl | rfl
 ·rw[List.drop_length];by_cases hq:ps.length<qs.length
  ·rw[if_pos hq,List.drop_eq_getElem_cons hq];rfl
  ·have:ps.length=qs.length:=by omega
   rw[if_neg hq,if_neg (by omega),this,List.drop_length];rfl
 ·rw[List.drop_length];by_cases hq:qs.length<ps.length
  ·rw[if_neg (by omega),if_pos hq,List.drop_eq_getElem_cons hq];rfl
  ·have:ps.length=qs.length:=by omega
   rw[if_neg (by omega),if_neg hq,← this,List.drop_length];rfl
theorem zhs (ps qs:List (List UInt8))(g1 g2:Nat)(w:World)(hp:z8p w g1 0 ps)(hq:z8p w g2 0 qs)(h1:ps.length≤2000001)(h2:qs.length≤2000001):
  Calls prog 154 #[.slice (some ⟨g1,0,none⟩) ps.length ps.length,.slice (some ⟨g2,0,none⟩) qs.length qs.length] w fun e w'=>e=.returned (.int .i64 (zhf ps qs))∧Below w.heap.size w w':=by
 have HP:=hd_ hp;have HQ:=hd_ hq;have HC:=hd_ (fun a b X=>zho a b X);clear hp hq;go_enter func154,ntmps154;go_wp2_with fail;go_loopw [5] (fun s wr=>∃ k:Nat,s=.int .i64 k∧k≤ps.length∧k≤qs.length∧Hid (zhp ps qs k∧Below w.heap.size w wr)) (fun s _=>ps.length - (intOf s).toNat)
 case atStart=>exact⟨0,rfl,Nat.zero_le _,Nat.zero_le _,rfl,Below.refl _ _⟩
 case round =>
  obtain⟨k,rfl,hk,hk2,HI⟩:=hrel;by_cases hlt:k<ps.length
  ·by_cases hlt2:k<qs.length
   ·have hx:wr.cell? ⟨g1,k,none⟩=some (.string (baL ps[k])):=by
     have h:=HP.out k hlt;rw[Nat.zero_add] at h;exact z04 h HI.out.2 (z03 h)
    have hy:wr.cell? ⟨g2,k,none⟩=some (.string (baL qs[k])):=by
     have h:=HQ.out k hlt2;rw[Nat.zero_add] at h;exact z04 h HI.out.2 (z03 h)
    have HN:=hd_ (zhq hlt hlt2 HI.out.1);have z1:(k:Int)<(ps.length:Int):=by omega
    have z2:(k:Int)<(qs.length:Int):=by omega
    have d1:decide (k<ps.length)=true:=by simp;omega
    have d2:decide (k<qs.length)=true:=by simp;omega
    generalize ps[k]=x at hx HN;generalize qs[k]=y at hy HN;go_wp2_with fail;go_quiet ((go_at_call 153;exact z3k (zho _ _ _)))
    clear hx hy d1 d2;have HB:Hid (Below w.heap.size w (wr.drewN nq)):=hd_ (z0p HI.out.2 nq);generalize wr.drewN nq=wz at HB ⊢;rw[z73,z73];by_cases h0:Lib.compareBytes x y=0
    ·have HA:=hd_ (HN.out.1 h0);rw[h0];clear h0 HN;go_wp2_with fail;go_roundw
     case rel=>exact⟨k+1,by go_num,by omega,by omega,HA.out,HB.out⟩
     case measure=>simp [intOf];omega
    ·have HA:=hd_ (HN.out.2 h0);have q:(Lib.compareBytes x y != 0)=true:=by simpa using h0
     generalize Lib.compareBytes x y=c at HA q;clear h0 HN;go_wp2_with fail;go_ret;exact⟨by rw[HA.out];rfl,HB.out⟩
   ·have d1:decide (k<ps.length)=true:=by simp;omega
    have d2:decide (k<qs.length)=false:=by simp;omega
    have HA:=hd_ (zhr HI.out.1 hk hk2 (.inr (by omega)))
    have d3:decide (ps.length<qs.length)=false:=by simp;omega
    have d4:decide (qs.length<ps.length)=true:=by simp;omega
    have HV:Hid ((if ps.length<qs.length then (-1:Int) else if qs.length<ps.length then 1 else 0)=1):=hd_ (by rw[if_neg (by omega),if_pos (by omega)])
    go_wp2_with fail;go_ret;exact⟨by rw[HA.out,HV.out];rfl,HI.out.2⟩
  ·have d1:decide (k<ps.length)=false:=by simp;omega
   have HA:=hd_ (zhr HI.out.1 hk hk2 (.inl (by omega)))
   by_cases hq:ps.length<qs.length
   ·have d3:decide (ps.length<qs.length)=true:=by simp;omega
    have HV:Hid ((if ps.length<qs.length then (-1:Int) else if qs.length<ps.length then 1 else 0)=-1):=hd_ (by rw[if_pos (by omega)])
    go_wp2_with fail;go_ret;exact⟨by rw[HA.out,HV.out];rfl,HI.out.2⟩
   ·have d3:decide (ps.length<qs.length)=false:=by simp;omega
    have d4:decide (qs.length<ps.length)=false:=by simp;omega
    have HV:Hid ((if ps.length<qs.length then (-1:Int) else if qs.length<ps.length then 1 else 0)=0):=hd_ (by rw[if_neg (by omega),if_neg (by omega)])
    go_wp2_with fail;go_ret;exact⟨by rw[HA.out,HV.out];rfl,HI.out.2⟩
def OrdPost (w:World)(a b:ByteArray)(e:Ending)(w':World):Prop:=∃ n:Int,e=.returned (.int .i64 n)∧Below w.heap.size w w'∧(z2s a=true→z2s b=true→n=z2u a b)
theorem zht {a:ByteArray}(h:z2q a.data.toList 2=none):z2s a=false:=by unfold z2s z2r;rw[h];rfl
def zhu (a b:ByteArray):Int:=match z2q a.data.toList 2,z2q b.data.toList 2 with
 | none,none=>Lib.compareBytes a.data.toList b.data.toList
 | none,some _=>-1
 | some _,none=>1
 | some ps,some qs=>zhf ps qs
theorem zhv {a b:ByteArray}(ha:z2s a=true)(hb:z2s b=true):zhu a b=z2u a b:=by
 unfold zhu;cases hda:z2q a.data.toList 2 with
 | none=>rw[zht hda] at ha;cases ha
 | some ps =>
  cases hdb:z2q b.data.toList 2 with
  | none=>rw[zht hdb] at hb;cases hb
  | some qs=>exact (zhn hda hdb).symm
theorem zhw (a b:ByteArray)(w:World)(he:Env w)(ha:a.size≤2000000)(hb:b.size≤2000000):
  Calls prog 93 #[.string a,.string b] w fun e w'=>e=.returned (.int .i64 (zhu a b))∧Below w.heap.size w w':=by
 have HE:=hd_ he;clear he;have HC:=hd_ (fun a b X=>zho a b X);cases hda:z2q a.data.toList 2 with
 | none =>
  have HVA:=hd_ (zht hda);have HA:=hd_ (z97 a w HE.out ha hda);cases hdb:z2q b.data.toList 2 with
  | none =>
   have HB:=hd_ (fun X (hX:Below w.heap.size w X)=>z97 b X (HE.out.below hX) hb hdb);have HF:Hid (zhu a b=Lib.compareBytes a.data.toList b.data.toList):=hd_ (by unfold zhu;rw[hda,hdb])
   clear hda hdb;go_enter func93,ntmps93;go_wp2_with fail;refine HA.out.mono ?_;rintro e w1 ⟨rfl,hb1⟩;have HB1:=hd_ (HB.out w1 hb1);have H1:=hd_ hb1;clear hb1;go_wp2_with fail;refine HB1.out.mono ?_;rintro e w2 ⟨rfl,hb2⟩;have H2:=hd_ hb2;clear hb2;go_wp2_with fail;refine (HC.out a b w2).mono ?_;rintro e w3 ⟨rfl,rfl⟩;go_wp2_with fail;go_ret;exact⟨z34 HF.out.symm,z0r H1.out H2.out⟩
  | some qs =>
   have HB:=hd_ (fun X (hX:Below w.heap.size w X)=>z96 b qs X (HE.out.below hX) hb hdb);have HF:Hid (zhu a b=-1):=hd_ (by unfold zhu;rw[hda,hdb])
   clear hda hdb;go_enter func93,ntmps93;go_wp2_with fail;refine HA.out.mono ?_;rintro e w1 ⟨rfl,hb1⟩;have HB1:=hd_ (HB.out w1 hb1);have H1:=hd_ hb1;clear hb1;go_wp2_with fail;refine HB1.out.mono ?_;rintro e w2 ⟨rfl,rfl⟩;have H2:Hid (Below w1.heap.size w1 (w1.alloc (.cells (z71 qs).toArray 9))):=hd_ ((Below.refl _ _).alloc (Nat.le_refl _) _);generalize w1.alloc (.cells (z71 qs).toArray 9)=w2 at H2 ⊢;go_wp2_with fail;go_ret;exact⟨z34 HF.out.symm,z0r H1.out H2.out⟩
 | some ps =>
  have HA:=hd_ (z96 a ps w HE.out ha hda);have hA1:Below w.heap.size w (w.alloc (.cells (z71 ps).toArray 9)):=(Below.refl _ _).alloc (Nat.le_refl _) _;have hS1:=z8p.of_blk (z0l w (z71 ps) 9);cases hdb:z2q b.data.toList 2 with
  | none =>
   have HVB:=hd_ (zht hdb);have HB:=hd_ (fun X (hX:Below w.heap.size w X)=>z97 b X (HE.out.below hX) hb hdb);have HF:Hid (zhu a b=1):=hd_ (by unfold zhu;rw[hda,hdb])
   clear hda hdb;go_enter func93,ntmps93;go_wp2_with fail;refine HA.out.mono ?_;rintro e w1 ⟨rfl,rfl⟩;have HB1:=hd_ (HB.out _ hA1);have H1:=hd_ hA1;clear hA1 hS1;generalize w.alloc (.cells (z71 ps).toArray 9)=w1 at HB1 H1 ⊢;go_wp2_with fail;refine HB1.out.mono ?_;rintro e w2 ⟨rfl,hb2⟩;have H2:=hd_ hb2;clear hb2;go_wp2_with fail;go_ret;exact⟨z34 HF.out.symm,z0r H1.out H2.out⟩
  | some qs =>
   have HB:=hd_ (fun X (hX:Below w.heap.size w X)=>z96 b qs X (HE.out.below hX) hb hdb);have HCM:=hd_ (zhn hda hdb);have hlp:ps.length≤2000001∧qs.length≤2000001:=by
    have k1:ps=z1a (a.data.toList.drop 2):=by unfold z2q at hda;split at hda;(injection hda with h;exact h.symm);cases hda
    have k2:qs=z1a (b.data.toList.drop 2):=by unfold z2q at hdb;split at hdb;(injection hdb with h;exact h.symm);cases hdb
    rw[k1,k2];exact⟨(z92 a 2 ha).1,(z92 b 2 hb).1⟩
   have HLP:=hd_ hlp;have HF:Hid (zhu a b=zhf ps qs):=hd_ (by unfold zhu;rw[hda,hdb])
   clear hda hdb hlp;go_enter func93,ntmps93;go_wp2_with fail;refine HA.out.mono ?_;rintro e w1 ⟨rfl,rfl⟩;have HB1:=hd_ (HB.out _ hA1);have H1:=hd_ hA1;have HS1:=hd_ hS1;clear hA1 hS1;generalize w.alloc (.cells (z71 ps).toArray 9)=w1 at HB1 H1 HS1 ⊢;go_wp2_with fail;refine HB1.out.mono ?_;rintro e w2 ⟨rfl,rfl⟩;have hA2:Below w1.heap.size w1 (w1.alloc (.cells (z71 qs).toArray 9)):=(Below.refl _ _).alloc (Nat.le_refl _) _;have HS2:=hd_ (z8p.of_blk (z0l w1 (z71 qs) 9));have HS3:=hd_ (HS1.out.below hA2);have H2:=hd_ hA2;clear hA2;generalize w1.alloc (.cells (z71 qs).toArray 9)=w2 at HS2 HS3 H2 ⊢;have HCP:=hd_ (zhs ps qs w.heap.size w1.heap.size w2 HS3.out HS2.out HLP.out.1 HLP.out.2);go_wp2_with fail;refine HCP.out.mono ?_;rintro e w3 ⟨rfl,hb3⟩;have H3:=hd_ hb3;clear hb3;go_wp2_with fail;go_ret;exact⟨z34 HF.out.symm,z0r H1.out (z0r H2.out H3.out)⟩
theorem zhx (a b:ByteArray)(w:World)(he:Env w)(ha:a.size≤2000000)(hb:b.size≤2000000):
  Calls prog 93 #[.string a,.string b] w (OrdPost w a b):=
 (zhw a b w he ha hb).mono fun e w' ⟨h1,h2⟩=>⟨_,h1,h2,fun h3 h4=>zhv h3 h4⟩
