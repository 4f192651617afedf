/- A part. -/
import Derived.Test.YtijghobkkdbhnaaGreatDoorMgw12
import Derived.Test.YtijghobkkdbhnaaGreatDoorMgw13
set_option linter.unusedVariables false
set_option linter.unusedSimpArgs false
set_option maxHeartbeats 8000000
set_option maxRecDepth 100000
namespace Go.Proofs.YtijghobkkdbhnaaGreatDoor
open Go.Proofs.Tryz
open Go.RowKit
open Go.Sort (grow)
def addP (l:List ByteArray)(p:ByteArray):List ByteArray:=if p∈l then l else l++[p]
def zb6 (D:List Rev):List ByteArray:=D.foldl (fun l r=>addP l r.path) []
theorem zb7 (D:List Rev)(k:Nat)(hk:k<D.length):zb6 (D.take (k+1))=addP (zb6 (D.take k)) D[k].path:=by
 unfold zb6;rw[List.take_succ_eq_append_getElem hk,List.foldl_append];rfl
theorem zb8 {l:List ByteArray}{p q:ByteArray}:q∈addP l p↔q∈l∨q=p:=by
 unfold addP;split
 ·rename_i h
  exact⟨.inl,fun h2=>h2.elim id fun e=>e ▸ h⟩
 ·simp
theorem zb9 (D:List Rev){q:ByteArray}:q∈zb6 D↔∃ r∈D,r.path=q:=by
 suffices h:∀(D:List Rev) (l:List ByteArray),q∈D.foldl (fun l r=>addP l r.path) l↔q∈l∨∃ r∈D,r.path=q by
  unfold zb6;rw[h];simp
 intro D;induction D with
 | nil=>intro l;simp
 | cons r D ih =>
  intro l;rw[List.foldl_cons,ih,zb8];constructor
  ·rintro ((h | h) | ⟨x,hx,h⟩)
   ·exact .inl h
   ·exact .inr ⟨r,List.mem_cons_self ..,h.symm⟩
   ·exact .inr ⟨x,List.mem_cons_of_mem _ hx,h⟩
  ·rintro (h | ⟨x,hx,h⟩)
   ·exact .inl (.inl h)
   ·rcases List.mem_cons.1 hx with rfl | hx
    ·exact .inl (.inr h.symm)
    ·exact .inr ⟨x,hx,h⟩
theorem zba (D:List Rev):(zb6 D).Nodup:=by
 suffices h:∀(D:List Rev) (l:List ByteArray),l.Nodup→(D.foldl (fun l r=>addP l r.path) l).Nodup from h D [] List.nodup_nil
 intro D;induction D with
 | nil=>intro l hl;exact hl
 | cons r D ih =>
  intro l hl;rw[List.foldl_cons];refine ih _ ?_;unfold addP;split
  ·exact hl
  ·rename_i h
   exact List.nodup_append.2 ⟨hl,by simp,fun a ha b hb=>by rw[List.mem_singleton] at hb;subst hb;exact fun e=>h (by rw[← e];exact ha)⟩
theorem zbb {α:Type}[DecidableEq α]:∀ {l B:List α},l.Nodup→(∀ x∈l,x∈B)→l.length≤B.length
 | [],B,_,_=>Nat.zero_le _
 | a :: l,B,hn,hs=>by
  have h1:=List.nodup_cons.1 hn;have ha:=hs a (List.mem_cons_self ..);have:=zbb (B:=B.erase a) h1.2 fun x hx=>(List.mem_erase_of_ne (fun e=>h1.1 (by rw[← e];exact hx))).2 (hs x (List.mem_cons_of_mem _ hx))
  rw[List.length_erase_of_mem ha] at this;have hp:=List.length_pos_of_mem ha;rw[List.length_cons];omega
theorem zbc {D:List Rev}{B:List ByteArray}(h:∀ r∈D,r.path∈B):(zb6 D).length≤B.length:=zbb (zba D) fun q hq=>by
 obtain⟨r,hr,rfl⟩:=(zb9 D).1 hq;exact h r hr
theorem zbd {l l':List ByteArray}(hp:l'.Perm l)(hs:l'.Pairwise (fun a b=>¬ z2u b a<0))(hn:l.Nodup)(hv:∀ x∈l,z2s x=true):z5x (fun q:ByteArray=>q) l':=by
 have hn':l'.Pairwise (·≠·):=(hp.nodup_iff).2 hn;have hv':∀ x∈l',z2s x=true:=fun x hx=>hv x (hp.mem_iff.1 hx);have h2:=List.pairwise_and_iff.2 ⟨hs,hn'⟩;unfold z5x;refine (List.Pairwise.imp_of_mem ?_ h2);intro a b ha hb ⟨h3,h4⟩
 rw[z5q] at h3;have h5:z2u a b≠0:=fun e=>h4 (z5r (hv' a ha) (hv' b hb) e);show z2u a b<0
 omega
structure zbe (w wr:World)(v:Value)(l:List ByteArray):Prop where
 low:Below w.heap.size w wr
 map:z2f Value.string z4i wr (w.heap.size+1) (z4h l)
 own:wr.ownsRow (w.heap.size+1+1) 9 1 v l.length (l.map .string)
theorem zbe.under {w wr wx:World}{v:Value}{l:List ByteArray}(h:zbe w wr v l)(hb:Below wr.heap.size wr wx):zbe w wx v l:=⟨z0r h.low hb,h.map.below hb,z0n h.own hb⟩
theorem zbe.upd {w wr w3:World}{v:Value}{l:List ByteArray}{f:ByteArray→Option Unit}(h:zbe w wr v l)(hM:z2f Value.string z4i w3 (w.heap.size+1) f)(hg:wr.grownBy w3 (some (w.heap.size+1))):
  Below w.heap.size w w3∧w3.ownsRow (w.heap.size+1+1) 9 1 v l.length (l.map .string):=
 ⟨h.low.grown hg h.low.size (fun k e=>by injection e with e;omega),z4q h.own hg (fun x e e2=>by injection e2 with e2;have:=(h.own.lt x e).1;omega)⟩
theorem zbf (p:ByteArray)(l:List ByteArray):z4h (l++[p])=upd (z4h l) p ():=by
 rw[← z4j];funext x
 unfold z4h;by_cases h:x∈l++[p]
 ·rw[if_pos h,if_pos (by simp at h ⊢;exact h.symm)]
 ·rw[if_neg h,if_neg (by simp at h ⊢;exact⟨h.2,h.1⟩)]
theorem zbg (D:List Rev)(B:List ByteArray)(dv dr:Value)(w:World)(hR:z45 w dv D)(hl:D.length≤1000000)(hB:∀ r∈D,r.path∈B)(hB12:B.length≤12)(hBv:∀ x∈B,z2s x=true∧x.size≤1000000):
  Calls prog 34 #[.agg #[dv,dr]] w fun e w'=>∃ v l,e=.returned v∧Below w.heap.size w w'∧Strs w' v l∧z5x (fun q:ByteArray=>q) l∧∀ q,q∈l↔∃ r∈D,r.path=q:=by
 obtain⟨Ar,cr,rfl,-⟩:=id hR;have hBox:=z0l w [.slice Ar D.length cr,dr] 27;have hA:Below w.heap.size w (w.alloc (.cells #[.slice Ar D.length cr,dr] 27)):=(Below.refl _ _).alloc (Nat.le_refl _) _;have hs1:(w.alloc (.cells #[.slice Ar D.length cr,dr] 27)).heap.size=w.heap.size+1:=by simp
 have hmm:=@run_makeMap prog;have HR:=hd_ hR;have HB:=hd_ hB;have HBV:=hd_ hBv;have HLL:Hid (∀ k,(zb6 (D.take k)).length≤12):=hd_ (fun k=>Nat.le_trans (zbc (B:=B) fun r hr=>hB r (List.mem_of_mem_take hr)) hB12);have HTK:=hd_ (zb7 D);clear hR hB hBv hB12;go_enter func34,ntmps34;go_upto_region 1 with fail;generalize w.alloc (.cells #[.slice Ar D.length cr,dr] 27)=W1 at hBox hA hs1 ⊢;have HS0:Hid (zbe w (W1.alloc (.map #[] 0)) (.slice none 0 0) []):=hd_ (by
  refine⟨hA.alloc hA.size _,?_,World.ownsRow_nil _ _ _ _⟩;have:=z2f.new Value.string z4i W1;rw[hs1] at this;exact this)
 have d0:(W1.alloc (.map #[] 0)).cell? ⟨w.heap.size,0,none⟩=some (.slice Ar D.length cr):=(hBox.alloc _).cell 0;have HS1:=hd_ hs1;clear hBox hA hs1;go_upto_region 3 with fail;rw[HS1.out];generalize W1.alloc (.map #[] 0)=W2 at HS0 d0 ⊢;clear hmm;go_wp2_with fail;go_loopw [4,13] (fun lv i wr=>∃(k n:Nat) (A:Option Addr) (c:Nat),lv=.slice A n c∧i=.int .i64 k∧k≤D.length∧Hid (n=(zb6 (D.take k)).length∧zbe w wr (.slice A n c) (zb6 (D.take k)))) (fun _ i _=>D.length - (intOf i).toNat)
 case atStart=>exact⟨0,0,none,0,rfl,rfl,Nat.zero_le _,hd_ ⟨rfl,HS0.out⟩⟩
 case round =>
  obtain⟨k,n,A,c,rfl,rfl,hk,HI⟩:=hrel;clear d0;by_cases hlt:k<D.length
  ·obtain⟨ad,rfl,hab,hld⟩:=z45.at_ (HR.out.below HI.out.2.low) hlt;have HT:=hd_ (HTK.out k hlt);have hbv:=HBV.out _ (HB.out D[k] (List.getElem_mem hlt));have HL1:=hd_ (HLL.out (k+1));have HL0:=hd_ (HLL.out k);generalize D[k]=r at hld HT hbv;obtain⟨x0,x1,x2,x3,x4,x5,x6,x7,x8,x9,x10,x11⟩:=hld;have hX:=z0l wr [.string r.path,.int .i64 r.num,.int .i64 r.chg,.int .i64 r.act,.int .i64 r.ty.base,.bool r.ty.k,.bool r.ty.l,.bool r.ty.x,.int .u64 r.sum,.int .i64 r.size,.string r.frm,.int .i64 r.fnum] 90;have HX:Hid (zbe w (wr.alloc (.cells #[.string r.path,.int .i64 r.num,.int .i64 r.chg,.int .i64 r.act,.int .i64 r.ty.base,.bool r.ty.k,.bool r.ty.l,.bool r.ty.x,.int .u64 r.sum,.int .i64 r.size,.string r.frm,.int .i64 r.fnum] 90)) (.slice A n c) (zb6 (D.take k))):=hd_ (HI.out.2.under ((Below.refl _ _).alloc (Nat.le_refl _) _));go_upto_region 6 with fail;clear x0 x1 x2 x3 x4 x5 x6 x7 x8 x9 x10 x11 hab;have hg6:w.heap.size+1<wr.heap.size:=HI.out.2.map.lt;generalize wr.alloc (.cells #[.string r.path,.int .i64 r.num,.int .i64 r.chg,.int .i64 r.act,.int .i64 r.ty.base,.bool r.ty.k,.bool r.ty.l,.bool r.ty.x,.int .u64 r.sum,.int .i64 r.size,.string r.frm,.int .i64 r.fnum] 90)=W6 at hX HX ⊢;generalize wr.heap.size=g6 at hX hg6 ⊢;have y0:W6.cell? ⟨g6,0,none⟩=some (.string r.path):=hX.cell 0;have HX6:=hd_ hX;have HN0:=hd_ HI.out.1;clear hX;generalize hll:zb6 (D.take k)=l at HX HT HL0 HN0;obtain⟨p,hpe⟩:∃ p,r.path=p:=⟨_,rfl⟩;rw[hpe] at y0 HT hbv;have HPE:=hd_ hpe;clear hpe;have HLK:=hd_ hlt;have hlk:=z2f.lookup (w:=W6) HX.out.map (z2d underlying9) underlying108 (z:=.agg #[]) (by rfl) p true
   clear hll HI;by_cases hin:p∈l
   ·have hv:z2h z4i (.agg #[]) true (z4h l p)=.tuple #[.agg #[],.bool true]:=by unfold z4h;rw[if_pos hin];rfl
    rw[hv] at hlk;have HT2:Hid (zb6 (D.take (k+1))=l):=hd_ (by rw[HT.out];exact if_pos hin)
    clear hin hv;go_wp2_with fail;go_roundw
    case rel=>exact⟨k+1,n,A,c,rfl,by go_num,by omega,hd_ ⟨by rw[HT2.out];exact HN0.out,by rw[HT2.out];exact HX.out.under ((Below.refl _ _).alloc (Nat.le_refl _) _)⟩⟩
    case measure=>simp [intOf];omega
   ·have hv:z2h z4i (.agg #[]) true (z4h l p)=.tuple #[.agg #[],.bool false]:=by unfold z4h;rw[if_neg hin];rfl
    rw[hv] at hlk;have HT2:Hid (zb6 (D.take (k+1))=l++[p]):=hd_ (by rw[HT.out];exact if_neg hin)
    have HVA:=hd_ (fun X=>zb5 p true hbv.1 X (by have:=hbv.2;omega))
    clear hin hv;have HX7:=hd_ (HX.out.under ((Below.refl W6.heap.size W6).alloc (Nat.le_refl _) (.cells #[] 136)));have hX7:=HX6.out.alloc (.cells #[] 136);have y7:(W6.alloc (.cells #[] 136)).cell? ⟨g6,0,none⟩=some (.string p):=by rw[← HPE.out];exact hX7.cell 0
    obtain⟨w3,hup,hM3,hg3,-⟩:=z2f.update (w:=W6.alloc (.cells #[] 136)) HX7.out.map (z2d underlying9) underlying108 p ();have hup':(Instr.mapUpdate 108 (.map (some (w.heap.size+1))) (.string p) (.agg #[])).run prog (W6.alloc (.cells #[] 136))=.ok () w3:=hup;have y3:w3.cell? ⟨g6,0,none⟩=some (.string p):=by rw[← HPE.out];exact (hX7.grown hg3 (fun e=>by injection e with e;omega)).cell 0
    obtain⟨hlo,how⟩:=HX7.out.upd hM3 hg3;have hba:Below w3.heap.size w3 (w3.alloc (.cells #[.string p] 9)):=(Below.refl _ _).alloc (Nat.le_refl _) _;have hlo4:=z0r hlo hba;have how4:=z0n how hba;have hM4:=hM3.below hba;have hrow:=z0i w3 [.string p] 9 1 1 rfl (by decide) _ rfl
    have hsz:w.heap.size+1+1≤(w3.alloc (.cells #[.string p] 9)).heap.size:=by have:=hM4.lt;omega
    have HN1:=hd_ HN0.out;have hn12:n≤12:=by have h1:=HN0.out;have h2:=HL0.out;omega
    have hown:(w3.alloc (.cells #[.string p] 9)).ownsRow (w.heap.size+1+1) 9 1 (.slice A n c) n (l.map .string):=by rw[HN0.out] at how4 ⊢;exact how4
    have HLO:=hd_ hlo4;have HMA:=hd_ hM4;have HOW:=hd_ hown;clear hup hX7 hlo how hba hlo4 how4 hM4 hown hM3;go_wp2_with (first
     | (go_at_call 70;refine (HVA.out _).mono ?_;rintro e w' ⟨rfl,rfl⟩)
     | (at_builtin;refine z0j rfl rfl z8c HOW.out rfl hrow rfl (by simp [Value.oneCell']) (by omega) (by unfold maxLen;omega) hsz ?_;intro A' c' w9 hown hgr hob))
    have HP:Hid (zbe w w9 (.slice A' (n+1) c') (l++[p])):=hd_ (by
     refine⟨HLO.out.grown hgr HLO.out.size (fun k e=>by have:=(HOW.out.lt k e).1;omega),?_,?_⟩
     ·rw[zbf];exact HMA.out.grown hgr (fun e=>by have:=(HOW.out.lt _ e.symm).1;omega)
     ·rw[List.length_append,List.length_singleton,← HN1.out,List.map_append];exact hown)
    clear hown hgr hob;go_wp2_with fail;go_roundw
    case rel=>exact⟨k+1,n+1,A',c',rfl,by go_num,by omega,hd_ ⟨by rw[HT2.out,List.length_append,← HN1.out];rfl,by rw[HT2.out];exact HP.out⟩⟩
    case measure=>simp [intOf];omega
  ·have hke:k=D.length:=by omega
   subst hke;rw[List.take_length] at HI;have hge:¬((D.length:Int)<(D.length:Int)):=by omega
   have HLD:=hd_ (HLL.out D.length);rw[List.take_length] at HLD;have HSO:=hd_ (zb2 (zb6 D) (.slice A n c) (w.heap.size+1+1) wr HI.out.2.own HLD.out (fun x hx=>by
    obtain⟨r,hr,rfl⟩:=(zb9 D).1 hx;exact HBV.out _ (HB.out r hr)))
   go_wp2_with fail;refine HSO.out.mono ?_;rintro e w9 ⟨rfl,h9⟩;have H9:=hd_ h9;clear h9;go_wp2_with fail;go_ret;obtain⟨l',hp,hs,hr,hg⟩:=H9.out;refine⟨_,l',rfl,HI.out.2.low.grown hg HI.out.2.low.size (fun k e=>by have:=(HI.out.2.own.lt k e).1;omega),?_,zbd hp hs (zba D) (fun x hx=>by
    obtain⟨r,hr,rfl⟩:=(zb9 D).1 hx;exact (HBV.out _ (HB.out r hr)).1),fun q=>by rw[hp.mem_iff];exact zb9 D⟩
   show Row w9 1 _ l'.length _
   rw[hp.length_eq];exact hr
structure WiOk (p q:Pat):Prop where
 le:q.parts.length≤p.parts.length
 all:∀ k (h:k<q.parts.length),z9x (p.parts[k]'(Nat.lt_of_lt_of_le h le)) q.parts[k]=true
theorem zco (p q:Pat)(A B:Option Addr)(a b:Nat)(w:World)(hp:zae w (.slice A p.parts.length a) p)(hq:zae w (.slice B q.parts.length b) q)(hw:WiOk p q):
  Calls prog 253 #[.agg #[.slice A p.parts.length a,.bool true],.agg #[.slice B q.parts.length b,.bool true]] w fun e w'=>e=.returned (.bool true)∧Below w.heap.size w w':=by
 have hA:Below w.heap.size w ((w.alloc (.cells #[.slice A p.parts.length a,.bool true] 68)).alloc (.cells #[.slice B q.parts.length b,.bool true] 68)):=((Below.refl _ _).alloc (Nat.le_refl _) _).alloc (by simp) _
 have h2:zbt ((w.alloc (.cells #[.slice A p.parts.length a,.bool true] 68)).alloc (.cells #[.slice B q.parts.length b,.bool true] 68)) w.heap.size (.slice A p.parts.length a) true:=(z0l w [.slice A p.parts.length a,.bool true] 68).alloc _;have h3:zbt ((w.alloc (.cells #[.slice A p.parts.length a,.bool true] 68)).alloc (.cells #[.slice B q.parts.length b,.bool true] 68)) (w.heap.size+1) (.slice B q.parts.length b) true:=by
  have:=z0l (w.alloc (.cells #[.slice A p.parts.length a,.bool true] 68)) [.slice B q.parts.length b,.bool true] 68;rw[World.size_alloc] at this;exact this
 have q1:decide (p.parts.length<q.parts.length)=false:=by have:=hw.le;simp;omega
 have hlq:q.parts.length≤9223372036854775807:=by
  obtain⟨A',c',e',hcc,hmm,-⟩:=id hq.1;injection e' with e1 e2 e3
  unfold maxLen at hmm;omega
 have HP:=hd_ hp;have HQ:=hd_ hq;have HW:=hd_ hw;clear hp hq hw;go_enter func253,ntmps253;go_upto_region 1 with fail;generalize (w.alloc (.cells #[.slice A p.parts.length a,.bool true] 68)).alloc (.cells #[.slice B q.parts.length b,.bool true] 68)=W1 at hA h2 h3 ⊢;have x0:=h2.c0;have x1:=h2.c1;have y0:=h3.c0;have y1:=h3.c1;have H:=hd_ (And.intro hA (And.intro h2 h3));clear hA h2 h3;go_quiet (fail)
 go_wp2_with fail;go_loopw [50] (fun i wr=>∃ k:Nat,i=.int .i64 k∧k≤q.parts.length∧Hid (Below W1.heap.size W1 wr)) (fun i _=>q.parts.length - (intOf i).toNat)
 case atStart=>exact⟨0,rfl,Nat.zero_le _,hd_ (z6x _ _)⟩
 case round =>
  obtain⟨k,rfl,hk,HI⟩:=hrel;clear x0 x1 y0 y1;by_cases hlt:k<q.parts.length
  ·have hlp:k<p.parts.length:=Nat.lt_of_lt_of_le hlt HW.out.le;obtain⟨ad,rfl,hab,s0⟩:=Strs.at_ (HQ.out.below (z0r H.out.1 HI.out)).1 hlt;obtain⟨ae,rfl,hae,r0⟩:=Strs.at_ (HP.out.below (z0r H.out.1 HI.out)).1 hlp;have x0:=(H.out.2.1.low HI.out).c0;have HC:=hd_ (fun X=>z9z p.parts[k] q.parts[k] X (HP.out.2 _ (List.getElem_mem _)) (HQ.out.2 _ (List.getElem_mem _)));rw[HW.out.all k hlt] at HC;generalize p.parts[k]=s at r0 HC;generalize q.parts[k]=t at s0 HC;have HLT:=hd_ hlt;have hz:(k:Int)<(p.parts.length:Int):=by omega
   clear hab hae;go_wp2_with fail;refine (HC.out _).mono ?_;rintro e w3 ⟨rfl,hb3⟩;have HB:=hd_ (z0r HI.out hb3);clear hb3 x0 s0 r0;go_wp2_with fail;go_roundw
   case rel=>exact⟨k+1,by go_num,by omega,HB⟩
   case measure=>simp [intOf];omega
  ·have hke:k=q.parts.length:=by omega
   subst hke;have HB:=hd_ (z0r H.out.1 HI.out);have hge:¬((q.parts.length:Int)<(q.parts.length:Int)):=by omega
   go_wp2_with fail;go_ret;exact⟨rfl,HB.out⟩
theorem zcp (p q:Pat)(A B:Option Addr)(a b:Nat)(w:World)(hp:zae w (.slice A p.parts.length a) p)(hq:zae w (.slice B q.parts.length b) q)(hpr:p.rest=true)(hqr:q.rest=true)(hpe:z7j p=0)(hqe:z7j q=0)(hw:WiOk p q):
  Calls prog 241 #[.agg #[.slice A p.parts.length a,.bool true],.agg #[.slice B q.parts.length b,.bool true]] w fun e w'=>e=.returned (.bool true)∧Below w.heap.size w w':=by
 have hA:Below w.heap.size w ((w.alloc (.cells #[.slice A p.parts.length a,.bool true] 68)).alloc (.cells #[.slice B q.parts.length b,.bool true] 68)):=((Below.refl _ _).alloc (Nat.le_refl _) _).alloc (by simp) _
 have h2:zbt ((w.alloc (.cells #[.slice A p.parts.length a,.bool true] 68)).alloc (.cells #[.slice B q.parts.length b,.bool true] 68)) w.heap.size (.slice A p.parts.length a) true:=(z0l w [.slice A p.parts.length a,.bool true] 68).alloc _;have h3:zbt ((w.alloc (.cells #[.slice A p.parts.length a,.bool true] 68)).alloc (.cells #[.slice B q.parts.length b,.bool true] 68)) (w.heap.size+1) (.slice B q.parts.length b) true:=by
  have:=z0l (w.alloc (.cells #[.slice A p.parts.length a,.bool true] 68)) [.slice B q.parts.length b,.bool true] 68;rw[World.size_alloc] at this;exact this
 have HCP:=hd_ (fun X (hX:Below w.heap.size w X)=>za5 p A a X (hp.below hX).1 hp.small);have HCQ:=hd_ (fun X (hX:Below w.heap.size w X)=>za5 q B b X (hq.below hX).1 hq.small);rw[hpe,hpr] at HCP;rw[hqe,hqr] at HCQ;have HIN:=hd_ (fun X (hX:Below w.heap.size w X)=>zco p q A B a b X (hp.below hX) (hq.below hX) hw);clear hp hq hw hpe hqe hpr hqr;go_enter func241,ntmps241;go_upto_region 1 with fail;generalize (w.alloc (.cells #[.slice A p.parts.length a,.bool true] 68)).alloc (.cells #[.slice B q.parts.length b,.bool true] 68)=W1 at hA h2 h3 ⊢;have x0:=h2.c0;have x1:=h2.c1;have H:=hd_ (And.intro hA (And.intro h2 h3));have HC1:=hd_ (HCP.out W1 hA);clear hA h2 h3;go_wp2_with fail;refine HC1.out.mono ?_;rintro e w2 ⟨rfl,hb⟩;have HB:=hd_ (z0r H.out.1 hb);have HG:=hd_ (And.intro (H.out.2.1.low hb) (H.out.2.2.low hb));have y0:=HG.out.2.c0;have y1:=HG.out.2.c1;have HC2:=hd_ (HCQ.out w2 HB.out);clear hb x0 x1;go_wp2_with fail;refine HC2.out.mono ?_;rintro e w3 ⟨rfl,hb⟩;have HB3:=hd_ (z0r HB.out hb);have x0:=(HG.out.1.low hb).c0;have x1:=(HG.out.1.low hb).c1;have z0:=(HG.out.2.low hb).c0;have z1:=(HG.out.2.low hb).c1;have HC3:=hd_ (HIN.out w3 HB3.out);clear hb y0 y1;go_wp2_with fail;refine HC3.out.mono ?_;rintro e w4 ⟨rfl,hb⟩;have HB4:=hd_ (z0r HB3.out hb);clear hb x0 x1 z0 z1;go_wp2_with fail;go_ret;exact⟨rfl,HB4.out⟩
theorem zcq (l:List ByteArray)(A:Option Addr)(c:Nat)(w:World)(hS:Strs w (.slice A l.length c) l)(hz:∀ x∈l,x.size≤maxLen)(hf:∀ x∈l,z7g x≠0):
  Calls prog 243 #[.agg #[.slice A l.length c,.bool true],.bool true] w fun e w'=>e=.returned (.bool true)∧Below w.heap.size w w':=by
 have hB:=z0l w [.slice A l.length c,.bool true] 228;have hA:Below w.heap.size w (w.alloc (.cells #[.slice A l.length c,.bool true] 228)):=(Below.refl _ _).alloc (Nat.le_refl _) _;obtain⟨A',c',e',hcc,hmm,-⟩:=id hS;injection e' with e1 e2 e3
 subst e1 e3;have HS:=hd_ hS;have HF:=hd_ (fun x (hx:x∈l) X=>z7q x X (hz x hx));have HN:=hd_ hf;clear hS hz hf;unfold maxLen at hmm;go_enter func243,ntmps243;go_upto_region 1 with fail;generalize w.alloc (.cells #[.slice A l.length c,.bool true] 228)=W1 at hB hA ⊢;have d0:W1.cell? ⟨w.heap.size,0,none⟩=some (.slice A l.length c):=hB.cell 0;have d1:W1.cell? ⟨w.heap.size,1,none⟩=some (.bool true):=hB.cell 1;have HA:=hd_ hA;clear hB hA;by_cases h0:l.length=0
 all_goals
  have q0:((l.length:Int) == 0)=decide (l.length=0):=by rw[Bool.eq_iff_iff,beq_iff_eq,decide_eq_true_eq];omega
  first
   | rw[decide_eq_true h0] at q0
   | rw[decide_eq_false h0] at q0
  have H0:=hd_ h0;clear h0;go_wp2_with fail;go_loopw [33] (fun i wr=>∃ k:Nat,i=.int .i64 k∧k≤l.length∧Hid (Below W1.heap.size W1 wr)) (fun i _=>l.length - (intOf i).toNat)
  case atStart=>exact⟨0,rfl,Nat.zero_le _,hd_ (Below.refl _ _)⟩
  case round =>
   obtain⟨k,rfl,hk,HI⟩:=hrel;clear d0 d1;by_cases hlt:k<l.length
   ·obtain⟨ad,rfl,hab,s0⟩:=Strs.at_ (HS.out.below (z0r HA.out HI.out)) hlt;have HC:=hd_ (HF.out l[k] (List.getElem_mem _));have hn:=HN.out l[k] (List.getElem_mem _);generalize l[k]=s at s0 HC hn;have qn:(z7g s == 0)=false:=by simpa using hn
    have HLT:=hd_ hlt;clear hab hn;generalize z7g s=fi at HC qn;go_wp2_with (go_at_call 190;refine (HC.out _).mono ?_;rintro e w' ⟨rfl,rfl⟩)
    go_roundw
    case rel=>exact⟨k+1,by go_num,by omega,HI⟩
    case measure=>simp [intOf];omega
   ·have hke:k=l.length:=by omega
    subst hke;have HB:=hd_ (z0r HA.out HI.out);have hge:¬((l.length:Int)<(l.length:Int)):=by omega
    go_wp2_with fail;go_ret;exact⟨rfl,HB.out⟩
structure zcr (p:Pat):Prop where
 rest:p.rest=true
 pat:z7j p=0
 star:∀ x∈p.parts,z7e x=false
theorem Row.capTo {w:World}{size n c:Nat}{A:Option Addr}{xs:List Value}(h:Row w size (.slice A n c) n xs):Row w size (.slice A n n) n xs:=by
 obtain⟨A',c',e,hc,hm,hl,h0,hx⟩:=h;injection e with e1 e2 e3
 subst e1 e3;exact⟨A,n,rfl,Nat.le_refl _,by omega,hl,fun e=>by have:=h0 e;omega,hx⟩
theorem zcs {P:Program}{w:World}{t e:TypeId}{size n c lo:Nat}{A:Option Addr}{xs:List Value}(ht:P.underlying t=some (.slice e))(hs:∀ w,(sizeOf e).run P w=.ok size w)
  (h:Row w size (.slice A n c) n xs) (h1:lo≤n):
  ∃ A',(∀ X,(Instr.sliceAt t (.slice A n c) (some (.int .i64 lo)) (some (.int .i64 n)) (some (.int .i64 n))).run P X=.ok (.slice A' (n - lo) (n - lo)) X)∧Row w size (.slice A' (n - lo) (n - lo)) (n - lo) (xs.drop (lo * size)):=by
 have he:P.elem t=e:=by simp [Program.elem,ht]
 have hc:n≤c:=by obtain⟨A',c',e,hc,-⟩:=id h;injection e with e1 e2 e3;omega
 have hr:=Row.slice (Row.capTo h) h1 (Nat.le_refl _);rw[List.take_of_length_le (by rw[List.length_drop,h.len,← Nat.sub_mul];exact Nat.le_refl _)] at hr
 refine⟨_,fun X=>?_,hr⟩;have ht':P.underlying t=some (.slice (P.elem t)):=by rw[he];exact ht
 rw[run_sliceAt_slice X t _ _ _ _ ht',run_slice_lhm X t A n c ht' _ _ _ _ _ _ (by omega) (by omega) (by omega) (by omega),he,hs]
 simp [Result.andThen,sliced]
theorem zct:z0e prog 180 228 2 32:=z0f underlying180 (z:=.agg #[.slice none 0 0,.bool false]) (by kernel_rfl) rfl (by decide)
def zcu (w:World)(p q:Pat)(e:Ending)(w':World):Prop:=Below w.heap.size w w'∧∃ B1 c1 A c,e=.returned (.tuple #[.slice (some B1) 1 c1,.bool true])∧Row w' 2 (.slice (some B1) 1 c1) 1 [.slice A (q.parts.length - p.parts.length) c,.bool true]∧Strs w' (.slice A (q.parts.length - p.parts.length) c) (q.parts.drop p.parts.length)
theorem zcv (p q:Pat)(A B:Option Addr)(a b:Nat)(w:World)(hp:zae w (.slice A p.parts.length a) p)(hq:zae w (.slice B q.parts.length b) q)(hn:zcr p)(hqr:q.rest=true)(hqe:z7j q=0)(hw:WiOk q p):
  Calls prog 215 #[.agg #[.slice A p.parts.length a,.bool true],.agg #[.slice B q.parts.length b,.bool true]] w (zcu w p q):=by
 have hA:Below w.heap.size w ((w.alloc (.cells #[.slice A p.parts.length a,.bool true] 68)).alloc (.cells #[.slice B q.parts.length b,.bool true] 68)):=((Below.refl _ _).alloc (Nat.le_refl _) _).alloc (by simp) _
 have h2:zbt ((w.alloc (.cells #[.slice A p.parts.length a,.bool true] 68)).alloc (.cells #[.slice B q.parts.length b,.bool true] 68)) w.heap.size (.slice A p.parts.length a) true:=(z0l w [.slice A p.parts.length a,.bool true] 68).alloc _;have h3:zbt ((w.alloc (.cells #[.slice A p.parts.length a,.bool true] 68)).alloc (.cells #[.slice B q.parts.length b,.bool true] 68)) (w.heap.size+1) (.slice B q.parts.length b) true:=by
  have:=z0l (w.alloc (.cells #[.slice A p.parts.length a,.bool true] 68)) [.slice B q.parts.length b,.bool true] 68;rw[World.size_alloc] at this;exact this
 have HWI:=hd_ (fun X (hX:Below w.heap.size w X)=>zcp q p B A b a X (hq.below hX) (hp.below hX) hqr hn.rest hqe hn.pat hw);have HCL:=hd_ (fun X (hX:Below w.heap.size w X)=>zau q.parts _ X (hq.below hX).1 (by have:=zat hqe;omega))
 have hlq:=zat hqe;have hle:=hw.le;have HP:=hd_ hp;have HST:=hd_ hn.star;clear hp hq hw hn hqe hqr;go_enter func215,ntmps215;go_upto_region 1 with fail;generalize (w.alloc (.cells #[.slice A p.parts.length a,.bool true] 68)).alloc (.cells #[.slice B q.parts.length b,.bool true] 68)=W1 at hA h2 h3 ⊢;have x0:=h2.c0;have x1:=h2.c1;have y0:=h3.c0;have y1:=h3.c1;have H:=hd_ (And.intro hA (And.intro h2 h3));have HC1:=hd_ (HWI.out W1 hA);clear hA h2 h3 HWI;go_wp2_with fail;refine HC1.out.mono ?_;rintro e w2 ⟨rfl,hb⟩;have HB:=hd_ (z0r H.out.1 hb);have HG:=hd_ (And.intro (H.out.2.1.low hb) (H.out.2.2.low hb));clear hb x0 x1 y0 y1 H HC1;have y0:=HG.out.2.c0;have HC2:=hd_ (HCL.out w2 HB.out);clear HCL;go_wp2_with fail;refine HC2.out.mono ?_;rintro e w3 ⟨v',rfl,hown,hb⟩;have HB3:=hd_ (z0r HB.out hb);have HG:=hd_ (And.intro (HG.out.1.low hb) (HG.out.2.low hb));have hlow:w.heap.size≤w2.heap.size:=HB.out.size;have HO:=hd_ hown;obtain⟨Av,cv,rfl⟩:=z0o hown;obtain⟨A',hcut,hrow⟩:=zcs (P:=prog) (t:=29) underlying29 zc3 (Row.of_own hown) hle;rw[Nat.mul_one] at hrow;have HR:=hd_ hrow;clear hb y0 hown hrow HC2;have x0:=HG.out.1.c0;go_wp2_with fail;go_loopw [7,21] (fun bv i wr=>∃ k:Nat,bv=.slice none 0 0∧i=.int .i64 k∧k≤p.parts.length∧Hid (Below w3.heap.size w3 wr)) (fun _ i _=>p.parts.length - (intOf i).toNat)
 case atStart=>exact⟨0,rfl,rfl,Nat.zero_le _,hd_ (Below.refl _ _)⟩
 case round =>
  obtain⟨k,rfl,rfl,hk,HI⟩:=hrel;clear x0;by_cases hlt:k<p.parts.length
  ·obtain⟨ad,rfl,hab,s0⟩:=Strs.at_ (HP.out.below (z0r HB3.out HI.out)).1 hlt;have HC:=hd_ (fun X=>z7p p.parts[k] X);rw[HST.out _ (List.getElem_mem _)] at HC;generalize p.parts[k]=s at s0 HC;have HLT:=hd_ hlt;clear hab;go_wp2_with (go_at_call 135;refine (HC.out _).mono ?_;rintro e w' ⟨rfl,rfl⟩)
   go_roundw
   case rel=>exact⟨k+1,rfl,by go_num,by omega,HI⟩
   case measure=>simp [intOf];omega
  ·have hke:k=p.parts.length:=by omega
   subst hke;have HG4:=hd_ (And.intro (HG.out.1.low HI.out) (HG.out.2.low HI.out));have HB4:=hd_ (z0r HB3.out HI.out);have HR4:=hd_ (Row.below HR.out HI.out);have hge:¬((p.parts.length:Int)<(p.parts.length:Int)):=by omega
   have x0:=HG4.out.1.c0;have x1:=HG4.out.1.c1;have y1:=HG4.out.2.c1;clear HG HB3 HO HR HB;go_upto_region 14 with fail;refine wp_region_noPanic ?_;go_region_law (refine zcj rfl rfl zct (World.ownsRow_nil _ wr.heap.size _ _) (by simp [Act.eval,Act.put]) (Row.drewN (z0i wr [.slice A' (q.parts.length - p.parts.length) (q.parts.length - p.parts.length),.bool true] _ 2 1 rfl (by decide) _ rfl) 1) (by simp [Act.eval,Act.put]) (by simp [Value.oneCell']) (by decide) (by decide) (by simp) ?_;intro A6 c6 w6 hO6 hG6 hw6)
   all_goals
    refine NoPanic.normal ?_;have HO6:=hd_ hO6;have HG6:=hd_ hG6;clear hO6 hG6 hw6;have hk:=‹∀(a:Act) (w:World),Code.wp _ _ _ a w→_›;refine hk _ _ ?_;clear hk;go_wp2_with fail;go_ret2;have hb6:Below wr.heap.size wr w6:=(((Below.refl _ _).alloc (Nat.le_refl _) _).drew).grown HG6.out (by simp) (fun k e=>by cases e)
    have hR6:=Row.of_own HO6.out;obtain⟨A9,c9,e9,-,-,-,-,hx9⟩:=id hR6;obtain⟨ad9,rfl,-⟩:=hx9 (by omega)
    injection e9 with e9 _ e10
    subst e9 e10;exact⟨z0r HB4.out hb6,ad9,_,A',_,rfl,hR6,by
     show Row w6 1 _ (List.drop p.parts.length q.parts).length _
     rw[List.length_drop,List.map_drop];exact Row.below HR4.out hb6⟩
def zcw (w:World)(p:Pat)(l:List ByteArray)(e:Ending)(w':World):Prop:=Below w.heap.size w w'∧∃ A' c',e=.returned (.tuple #[.agg #[.slice A' (p.parts.length+l.length) c',.bool true],.int .i64 0])∧(∀ x,(Value.slice A' (p.parts.length+l.length) c').ownBlock=some x→w.heap.size≤x)∧Strs w' (.slice A' (p.parts.length+l.length) c') (p.parts++l)
structure zcx (w wr:World)(g4 g11:Nat)(v:Value)(b:Bool)(l:List ByteArray):Prop where
 low:Below w.heap.size w wr
 le4:w.heap.size≤g4
 le:g4<g11
 box4:zbt wr g4 (.slice none 0 0) false
 box:zbt wr g11 v b
 own:wr.ownsRow w.heap.size 9 1 v l.length (l.map .string)
 ne4:v.ownBlock≠some g4
 ne:v.ownBlock≠some g11
theorem zcx.under {w wr wx:World}{g4 g11:Nat}{v:Value}{b:Bool}{l:List ByteArray}(h:zcx w wr g4 g11 v b l)(hb:Below wr.heap.size wr wx):zcx w wx g4 g11 v b l:=⟨z0r h.low hb,h.le4,h.le,h.box4.low hb,h.box.low hb,z0n h.own hb,h.ne4,h.ne⟩
theorem zcx.app {w wr w2:World}{g4 g11:Nat}{v:Value}{b:Bool}{l m:List ByteArray}{A':Option Addr}{c' n:Nat}(h:zcx w wr g4 g11 v b l)(hn:n=l.length+m.length)
  (hown:w2.ownsRow w.heap.size 9 1 (.slice A' n c') n (l.map .string++m.map .string)) (hgr:wr.grownBy w2 v.ownBlock)
  (hob:(Value.slice A' n c').ownBlock=v.ownBlock∨(Value.slice A' n c').ownBlock=some wr.heap.size):
  zcx w (w2.setCell ⟨g11,0,none⟩ (.slice A' n c')) g4 g11 (.slice A' n c') b (l++m):=by
 have l4:=Blk.lt h.box4;have l11:=Blk.lt h.box;have n4:(Value.slice A' n c').ownBlock≠some g4:=by
  rcases hob with e | e
  ·rw[e];exact h.ne4
  ·rw[e];intro e2;injection e2 with e2;omega
 have n11:(Value.slice A' n c').ownBlock≠some g11:=by
  rcases hob with e | e
  ·rw[e];exact h.ne
  ·rw[e];intro e2;injection e2 with e2;omega
 have hlt:=h.le;have hl4:=h.le4;refine⟨(h.low.grown hgr h.low.size (fun k e=>(h.own.lt k e).1)).setCell (p:=⟨g11,0,none⟩) (by show w.heap.size≤g11;omega) _,h.le4,h.le,Blk.far (Blk.grown h.box4 hgr (fun e=>h.ne4 e.symm)) (by show g11≠g4;omega) _,(Blk.grown h.box hgr (fun e=>h.ne e.symm)).set_ 0 _,?_,n4,n11⟩
 have hl:(l++m).length=n:=by rw[List.length_append,hn]
 rw[hl,List.map_append];exact z4r hown (p:=⟨g11,0,none⟩) n11 _
theorem zcy {p:Pat}(h:zcr p):za7 p=0:=by
 unfold za7;rw[List.filter_eq_nil_iff.2]
 ·rfl
 ·intro x hx;rw[h.star x hx];decide
theorem zcz (p:Pat)(l:List ByteArray)(A:Option Addr)(a:Nat)(B1:Addr)(c1:Nat)(C:Option Addr)(m c:Nat)(w:World)(hp:zae w (.slice A p.parts.length a) p)(hn:zcr p)
  (hb:Row w 2 (.slice (some B1) 1 c1) 1 [.slice C m c,.bool true]) (hl:Strs w (.slice C m c) l) (hz:∀ x∈l,x.size≤1000000) (hf:∀ x∈l,z7g x≠0) (hle:p.parts.length+l.length≤12):
  Calls prog 216 #[.agg #[.slice A p.parts.length a,.bool true],.slice (some B1) 1 c1] w (zcw w p l):=by
 have hml:m=l.length:=by obtain⟨A',c',e,-⟩:=id hl;injection e
 subst hml;have hcells:w.cell? B1=some (.slice C l.length c)∧w.cell? ⟨B1.block,B1.off+1,none⟩=some (.bool true)∧B1.block<w.heap.size:=by
  obtain⟨A',c',e,-,-,-,-,hx⟩:=id hb;injection e with e1 e2 e3
  obtain⟨ad,e4,hb4,hc4⟩:=hx (by omega)
  rw[← e1] at e4;injection e4 with e4
  subst e4;have h0:=hc4 0 _ rfl;have h1:=hc4 1 _ rfl;unfold Addr.add at h0 h1;exact⟨by simpa using h0,by simpa using h1,hb4⟩
 have hcap:1≤c1:=by
  obtain⟨A',c',e,h1,-⟩:=id hb;injection e with e1 e2 e3
  omega
 have hA:Below w.heap.size w ((w.alloc (.cells #[.slice A p.parts.length a,.bool true] 68)).alloc (.cells #[.slice none 0 0,.bool false] 68)):=((Below.refl _ _).alloc (Nat.le_refl _) _).alloc (by simp) _
 have h2:zbt ((w.alloc (.cells #[.slice A p.parts.length a,.bool true] 68)).alloc (.cells #[.slice none 0 0,.bool false] 68)) w.heap.size (.slice A p.parts.length a) true:=(z0l w [.slice A p.parts.length a,.bool true] 68).alloc _;have h3:zbt ((w.alloc (.cells #[.slice A p.parts.length a,.bool true] 68)).alloc (.cells #[.slice none 0 0,.bool false] 68)) (w.heap.size+1) (.slice none 0 0) false:=by
  have:=z0l (w.alloc (.cells #[.slice A p.parts.length a,.bool true] 68)) [.slice none 0 0,.bool false] 68;rw[World.size_alloc] at this;exact this
 have HKI:Hid (∀ X,Below w.heap.size w X→Calls prog 169 #[.agg #[.slice A p.parts.length a,.bool true]] X (zab X p)):=hd_ (fun X hX=>by have:=zac p A a X (hp.below hX).1 hp.small;rw[hn.rest] at this;exact this)
 have HCL:=hd_ (fun X (hX:Below w.heap.size w X)=>zau p.parts _ X (hp.below hX).1 (by omega))
 have HIB:=hd_ (fun X (hX:Below w.heap.size w X)=>zcq l C c X (hl.below hX) (fun x hx=>by have:=hz x hx;unfold maxLen;omega) hf)
 have HP:=hd_ hp;have HN:=hd_ hn;have HL:=hd_ hl;have HCE:=hd_ hcells;have HNS:=hd_ (zcy hn);have HLE:=hd_ hle;clear hp hn hl hcells hz hf hb;go_enter func216,ntmps216;go_upto_region 1 with fail;generalize (w.alloc (.cells #[.slice A p.parts.length a,.bool true] 68)).alloc (.cells #[.slice none 0 0,.bool false] 68)=W1 at hA h2 h3 ⊢;have x0:=h2.c0;have x1:=h2.c1;have H:=hd_ (And.intro hA (And.intro h2 h3));have HC1:=hd_ (HKI.out W1 hA);clear hA h2 h3 HKI;go_wp2_with fail;refine HC1.out.mono ?_;rintro e w2 ⟨n,b',rfl,hk,hb⟩;obtain⟨rfl,hb'⟩:=hk HN.out.pat;rw[HN.out.rest] at hb';subst hb';rw[HNS.out];have hpe:z7j p=0:=HN.out.pat;rw[hpe];have HB:=hd_ (z0r H.out.1 hb);have HG:=hd_ (And.intro (H.out.2.1.low hb) (H.out.2.2.low hb));clear hb x0 x1 hk hpe HC1 H;go_wp2_with fail;go_loopw [45] (fun i wr=>∃ k:Nat,i=.int .i64 k∧k≤1∧Hid (Below w2.heap.size w2 wr)) (fun i _=>1 - (intOf i).toNat)
 case atStart=>exact⟨0,rfl,Nat.zero_le _,hd_ (Below.refl _ _)⟩
 case round =>
  obtain⟨k,rfl,hk,HI⟩:=hrel;by_cases hlt:k<1
  ·have hk0:(k:Int)=0:=by omega
   have q0:((k:Int) == 0)=true:=by rw[hk0];rfl
   have HK0:=hd_ hk0;have hadd:B1.add (k * 2)=B1:=by
    have:k=0:=by omega
    subst this;unfold Addr.add;simp
   have s0:wr.cell? (B1.add (k * 2))=some (.slice C l.length c):=by rw[hadd];exact ((HB.out.trans (HI.out.mono HB.out.size)).cell HCE.out.2.2).trans HCE.out.1
   have s1:wr.cell? ⟨(B1.add (k * 2)).block,(B1.add (k * 2)).off+1,none⟩=some (.bool true):=by rw[hadd];exact ((HB.out.trans (HI.out.mono HB.out.size)).cell (p:=⟨B1.block,B1.off+1,none⟩) HCE.out.2.2).trans HCE.out.2.1
   clear hk0 hadd;have hX:Below w2.heap.size w2 (wr.alloc (.cells #[.slice C l.length c,.bool true] 228)):=HI.out.alloc HI.out.size _;have HCQ:=hd_ (HIB.out _ (z0r HB.out hX));have HX:=hd_ hX;clear hX;go_wp2_with fail;refine HCQ.out.mono ?_;rintro e w4 ⟨rfl,hb⟩;have HB4:=hd_ (z0r HX.out hb);clear hb s0 s1;go_wp2_with fail;go_roundw
   case rel=>exact⟨k+1,by go_num,by omega,HB4⟩
   case measure=>simp [intOf];omega
  ·have hk1:k=1:=by omega
   subst hk1;have HB3:=hd_ (z0r HB.out HI.out);have HG3:=hd_ (And.intro (HG.out.1.low HI.out) (HG.out.2.low HI.out));have HC3:=hd_ (HCL.out wr HB3.out);have x0:=HG3.out.1.c0;clear HCL HIB HG HI HB;go_wp2_with fail;refine HC3.out.mono ?_;rintro e w4 ⟨v',rfl,hown,hb⟩;obtain⟨Av,cv,rfl⟩:=z0o hown;have HB4:=hd_ (z0r HB3.out hb);have hg4:=HG3.out.2.low hb;have hsz4:=hb.size;have hw4:=HB3.out.size;have hlt4:=Blk.lt HG3.out.2;have HS:Hid (zcx w (w4.alloc (.cells #[.slice Av p.parts.length cv,.bool false] 68)) (w.heap.size+1) w4.heap.size (.slice Av p.parts.length cv) false p.parts):=hd_ (by
    have hba:Below w4.heap.size w4 (w4.alloc (.cells #[.slice Av p.parts.length cv,.bool false] 68)):=(Below.refl _ _).alloc (Nat.le_refl _) _;refine⟨z0r HB4.out hba,by omega,by have:=Blk.lt hg4;omega,hg4.low hba,z0l w4 _ _,z4p (z0n hown hba) hw4,fun e=>?_,fun e=>?_⟩
    ·have:=(hown.lt _ e).1;omega
    ·have:=(hown.lt _ e).2;omega)
   have HB5:=hd_ hb;clear hb hown hg4 x0 HC3;have y0:=HS.out.box.c0;go_upto_region 13 with fail;generalize w4.alloc (.cells #[.slice Av p.parts.length cv,.bool false] 68)=W5 at HS y0 ⊢;generalize w4.heap.size=g11 at HS y0 ⊢;clear hsz4 hw4 hlt4;go_wp2_with fail;go_loopw [1,65] (fun lv i wr=>∃ j:Nat,lv=.slice (some B1) 1 c1∧i=.int .i64 j∧j≤p.parts.length∧Hid (Below W5.heap.size W5 wr)) (fun _ i _=>p.parts.length - (intOf i).toNat)
   case atStart=>exact⟨0,rfl,rfl,Nat.zero_le _,hd_ (Below.refl _ _)⟩
   case round =>
    obtain⟨j,rfl,rfl,hj,HJ⟩:=hrel;clear y0;have HSJ:=hd_ (HS.out.under HJ.out);by_cases hlt2:j<p.parts.length
    ·have hrow:Strs wr (.slice Av p.parts.length cv) p.parts:=Row.of_own HSJ.out.own;obtain⟨ad,rfl,hab,s0⟩:=Strs.at_ hrow hlt2;have HT:=hd_ (fun X=>z7p p.parts[j] X);rw[HN.out.star _ (List.getElem_mem _)] at HT;generalize p.parts[j]=s at s0 HT;have HLT:=hd_ hlt2;clear hab hrow;go_wp2_with (go_at_call 135;refine (HT.out _).mono ?_;rintro e w' ⟨rfl,rfl⟩)
     go_roundw
     case rel=>exact⟨j+1,rfl,by go_num,by omega,HJ⟩
     case measure=>simp [intOf];omega
    ·have hje:j=p.parts.length:=by omega
     subst hje;have hge:¬((p.parts.length:Int)<(p.parts.length:Int)):=by omega
     have y0:=HSJ.out.box.c0;have b0:wr.cell? B1=some (.slice C l.length c):=(HSJ.out.low.cell HCE.out.2.2).trans HCE.out.1;have b1:wr.cell? ⟨B1.block,B1.off+1,none⟩=some (.bool true):=(HSJ.out.low.cell (p:=⟨B1.block,B1.off+1,none⟩) HCE.out.2.2).trans HCE.out.2.1;have q12:decide ((12:Int)<(p.parts.length:Int)+(l.length:Int))=false:=by have:=HLE.out;simp;omega
     have q13:decide (12<p.parts.length+l.length)=false:=by have:=HLE.out;simp;omega
     go_upto_region 20 with fail;go_quiet (fail)
     go_upto_region 22 with fail;have HSQ:=hd_ (HSJ.out.under (z6x wr nq));generalize wr.drewN nq=W9 at HSQ ⊢;clear y0 b0 b1;have y0:=HSQ.out.box.c0;have b0:W9.cell? B1=some (.slice C l.length c):=(HSQ.out.low.cell HCE.out.2.2).trans HCE.out.1;have b1:W9.cell? ⟨B1.block,B1.off+1,none⟩=some (.bool true):=(HSQ.out.low.cell (p:=⟨B1.block,B1.off+1,none⟩) HCE.out.2.2).trans HCE.out.2.1;have h1:∀ u∈l.map Value.string,u.oneCell'=true:=fun u hu=>by
      obtain⟨b,-,rfl⟩:=List.mem_map.1 hu;rfl
     have H1:=hd_ h1;have hl12:p.parts.length+l.length≤12:=HLE.out;have HHS:Hid (w.heap.size≤W9.drew.heap.size):=hd_ HSQ.out.low.drew.size;clear h1;refine wp_region_noPanic ?_;go_region_law (refine zcj rfl rfl z8c (z0n HSQ.out.own ((Below.refl _ _).drew)) (by simp [Act.eval,Act.put]) (HL.out.below HSQ.out.low.drew) (by simp [Act.eval,Act.put]) H1.out (by omega) (by unfold maxLen;omega) HHS.out ?_;intro A6 c6 w6 hO6 hG6 hw6;have hbx:=Blk.grown (HSQ.out.under ((Below.refl _ _).drew)).box hG6 (fun e=>HSQ.out.ne e.symm);have g0:w6.frozen? ⟨g11,0,none⟩=false:=zbt.f0 hbx;have z0:w6.cell? ⟨g11,0,none⟩=some (.slice Av p.parts.length cv):=zbt.c0 hbx)
     all_goals
      refine NoPanic.normal ?_;have HP6:=hd_ ((HSQ.out.under ((Below.refl _ _).drew)).app rfl hO6 hG6 hw6);clear hO6 hG6 hw6 hbx g0 z0 y0 b0 b1;generalize w6.setCell ⟨g11,0,none⟩ (.slice A6 (p.parts.length+l.length) c6)=W7 at HP6 ⊢;have hk:=‹∀(a:Act) (w:World),Code.wp _ _ _ a w→_›;refine hk _ _ ?_;clear hk;have b1:W7.cell? ⟨B1.block,B1.off+1,none⟩=some (.bool true):=(HP6.out.low.cell (p:=⟨B1.block,B1.off+1,none⟩) HCE.out.2.2).trans HCE.out.2.1;have y0:=HP6.out.box.c0;have y1:=HP6.out.box.c1;have f1:=HP6.out.box.f1;obtain⟨u0,u1,u2,u3⟩:=HP6.out.box4.all;have hne:¬(w.heap.size+1=g11):=by have:=HP6.out.le;omega
      have hne2:¬(g11=w.heap.size+1):=by have:=HP6.out.le;omega
      go_wp2_with fail;have hE:=zbt.put (show zbt (W7.setCell ⟨g11,1,none⟩ (.bool true)) (w.heap.size+1) (.slice none 0 0) false from Blk.far HP6.out.box4 (p:=⟨g11,1,none⟩) hne2 (.bool true)) (.slice A6 (p.parts.length+l.length) c6) true;have hb:=zbu (HP6.out.low.setCell (p:=⟨g11,1,none⟩) (by show w.heap.size≤g11;have:=HP6.out.le;have:=HP6.out.le4;omega) (.bool true)) (g:=w.heap.size+1) (by omega) (.slice A6 (p.parts.length+l.length) c6) (.bool true)
      have hO:=Row.of_own (z4r (z4r (z4r HP6.out.own (p:=⟨g11,1,none⟩) HP6.out.ne (.bool true)) (p:=⟨w.heap.size+1,0,none⟩) HP6.out.ne4 (.slice A6 (p.parts.length+l.length) c6)) (p:=⟨w.heap.size+1,1,none⟩) HP6.out.ne4 (.bool true));generalize ((W7.setCell ⟨g11,1,none⟩ (.bool true)).setCell ⟨w.heap.size+1,0,none⟩ (.slice A6 (p.parts.length+l.length) c6)).setCell ⟨w.heap.size+1,1,none⟩ (.bool true)=W8 at hE hb hO ⊢;obtain⟨-,-,c0,c1⟩:=hE.all;refine bodyPost_ret (v:=.tuple #[.agg #[.slice A6 (p.parts.length+l.length) c6,.bool true],.int .i64 0]) (by simp [results,results216,go_sem,c0,c1]) rfl ⟨hb,A6,c6,rfl,fun x hx=>(HP6.out.own.lt x hx).1,?_⟩
      show Row W8 1 _ (p.parts++l).length _
      exact hO
def zd0 (l r m:Pat):Pat:=⟨r.parts++m.parts.drop l.parts.length,true⟩
structure zd1 (l r h m:Pat):Prop where
 nl:zcr l
 nr:zcr r
 rule:zad l r=0
 hole:z7j h=0
 meet:zan l h=some m
 mr:m.rest=true
 me:z7j m=0
 wi:WiOk m l
 len:r.parts.length+(m.parts.length - l.parts.length)≤12
theorem zd2 {m:Pat}(h:z7j m=0)(n:Nat):∀ x∈m.parts.drop n,z7g x≠0:=fun x hx=>by
 obtain⟨k,hk,rfl⟩:=List.getElem_of_mem (List.mem_of_mem_drop hx);exact zch h hk
def CarPost (w:World)(l r m:Pat)(e:Ending)(w':World):Prop:=Below w.heap.size w w'∧∃ A' c',e=.returned (.tuple #[.agg #[.slice A' (zd0 l r m).parts.length c',.bool true],.int .i64 0])∧(∀ x,(Value.slice A' (zd0 l r m).parts.length c').ownBlock=some x→w.heap.size≤x)∧zae w' (.slice A' (zd0 l r m).parts.length c') (zd0 l r m)
theorem zd3 (l r h m:Pat)(A B C:Option Addr)(a b c:Nat)(w:World)(hl:zae w (.slice A l.parts.length a) l)(hm:zae w (.slice B m.parts.length b) m)(hr:zae w (.slice C r.parts.length c) r)(hn:zd1 l r h m):
  Calls prog 170 #[.agg #[.slice A l.parts.length a,.bool true],.agg #[.slice B m.parts.length b,.bool true],.agg #[.slice C r.parts.length c,.bool true]] w (CarPost w l r m):=by
 obtain⟨W1,hW1⟩:∃ W,W=(((w.alloc (.cells #[.slice A l.parts.length a,.bool true] 68)).alloc (.cells #[.slice B m.parts.length b,.bool true] 68)).alloc (.cells #[.slice C r.parts.length c,.bool true] 68)).alloc (.cells #[.slice none 0 0,.bool false] 68):=⟨_,rfl⟩;have hA:Below w.heap.size w W1:=by rw[hW1];exact ((((Below.refl _ _).alloc (Nat.le_refl _) _).alloc (by simp) _).alloc (by simp;omega) _).alloc (by simp;omega) _
 have h2:zbt W1 w.heap.size (.slice A l.parts.length a) true:=by rw[hW1];exact (((z0l w [.slice A l.parts.length a,.bool true] 68).alloc _).alloc _).alloc _
 have h3:zbt W1 (w.heap.size+1) (.slice B m.parts.length b) true:=by
  rw[hW1];have:=z0l (w.alloc (.cells #[.slice A l.parts.length a,.bool true] 68)) [.slice B m.parts.length b,.bool true] 68;simp only[World.size_alloc] at this
  exact (this.alloc _).alloc _
 have h4:zbt W1 (w.heap.size+1+1) (.slice C r.parts.length c) true:=by
  rw[hW1];have:=z0l ((w.alloc (.cells #[.slice A l.parts.length a,.bool true] 68)).alloc (.cells #[.slice B m.parts.length b,.bool true] 68)) [.slice C r.parts.length c,.bool true] 68;simp only[World.size_alloc] at this
  exact this.alloc _
 have h5:zbt W1 (w.heap.size+1+1+1) (.slice none 0 0) false:=by
  rw[hW1];have:=z0l (((w.alloc (.cells #[.slice A l.parts.length a,.bool true] 68)).alloc (.cells #[.slice B m.parts.length b,.bool true] 68)).alloc (.cells #[.slice C r.parts.length c,.bool true] 68)) [.slice none 0 0,.bool false] 68;simp only[World.size_alloc] at this
  exact this
 have HBD:=hd_ (fun X (hX:Below w.heap.size w X)=>zcv l m A B a b X (hl.below hX) (hm.below hX) hn.nl hn.mr hn.me hn.wi);have HSB:=hd_ (fun X (hX:Below w.heap.size w X) B1 c1 D d (h1:Row X 2 (.slice (some B1) 1 c1) 1 [.slice D (m.parts.length - l.parts.length) d,.bool true]) h2=>zcz r (m.parts.drop l.parts.length) C c B1 c1 D (m.parts.length - l.parts.length) d X (hr.below hX) hn.nr h1 h2 (fun x hx=>hm.2 x (List.mem_of_mem_drop hx)) (zd2 hn.me _) (by rw[List.length_drop];exact hn.len))
 have HLN:Hid (r.parts.length+(m.parts.drop l.parts.length).length=(zd0 l r m).parts.length):=hd_ (by unfold zd0;simp)
 have HSZ:Hid (∀ x∈(zd0 l r m).parts,x.size≤1000000):=hd_ (fun x hx=>by
  rcases List.mem_append.1 hx with h | h
  ·exact hr.2 x h
  ·exact hm.2 x (List.mem_of_mem_drop h))
 have HW1:=hd_ hW1;have H:=hd_ (And.intro hA (And.intro h2 (And.intro h3 (And.intro h4 h5))));clear hl hm hr hn hW1 hA h2 h3 h4 h5;go_enter func170,ntmps170;go_upto_region 1 with fail;rw[← HW1.out];have x0:=H.out.2.1.c0;have x1:=H.out.2.1.c1;have y0:=H.out.2.2.1.c0;have y1:=H.out.2.2.1.c1;have HC1:=hd_ (HBD.out W1 H.out.1);clear HBD;go_wp2_with fail;refine HC1.out.mono ?_;rintro e w2 ⟨hb,B1,c1,D,d,rfl,hR,hS⟩;have HB:=hd_ (z0r H.out.1 hb);have HC2:=hd_ (HSB.out w2 HB.out B1 c1 D d hR hS);have h4:=H.out.2.2.2.1.low hb;have HZ:=hd_ (H.out.2.2.2.2.low hb);clear x0 x1 y0 y1 hb hR hS HSB HC1;have x0:=h4.c0;have x1:=h4.c1;clear h4;go_wp2_with fail;refine HC2.out.mono ?_;rintro e w3 ⟨hb,A6,c6,rfl,hF,hS⟩;rw[HLN.out] at hS hF ⊢;have HF:=hd_ hF;clear hF;have HB3:=hd_ (z0r HB.out hb);have hZ3:=HZ.out.low hb;have HS:=hd_ hS;clear hb hS x0 x1 HC2;have hX4:Below w3.heap.size w3 (w3.alloc (.cells #[.slice A6 (zd0 l r m).parts.length c6,.bool true] 68)):=(Below.refl _ _).alloc (Nat.le_refl _) _;have HZ4:=hd_ (hZ3.low hX4);have HB4:=hd_ (z0r HB3.out hX4);have HS4:=hd_ (HS.out.below hX4);have HN:Hid (zbt (w3.alloc (.cells #[.slice A6 (zd0 l r m).parts.length c6,.bool true] 68)) w3.heap.size (.slice A6 (zd0 l r m).parts.length c6) true):=hd_ (z0l w3 [.slice A6 (zd0 l r m).parts.length c6,.bool true] 68);clear hX4 hZ3;go_upto_region 3 with fail;generalize w3.alloc (.cells #[.slice A6 (zd0 l r m).parts.length c6,.bool true] 68)=W4 at HZ4 HB4 HS4 HN ⊢;have x0:=HN.out.c0;have x1:=HN.out.c1;obtain⟨f0,f1,c0,c1⟩:=HZ4.out.all;have hne:(Value.slice A6 (zd0 l r m).parts.length c6).ownBlock≠some (w.heap.size+1+1+1):=fun e=>by have h1:=HF.out _ e;have h2:=Blk.lt HZ.out;omega
 have HS4x:Hid (Strs W4 (.slice A6 (zd0 l r m).parts.length c6) (zd0 l r m).parts):=hd_ HS4.out;go_wp2_with fail;have hE:=HZ4.out.put (.slice A6 (zd0 l r m).parts.length c6) true;have hb:=zbu HB4.out (g:=w.heap.size+1+1+1) (by omega) (.slice A6 (zd0 l r m).parts.length c6) (.bool true)
 have hK:Strs ((W4.setCell ⟨w.heap.size+1+1+1,0,none⟩ (.slice A6 (zd0 l r m).parts.length c6)).setCell ⟨w.heap.size+1+1+1,1,none⟩ (.bool true)) (.slice A6 (zd0 l r m).parts.length c6) (zd0 l r m).parts:=Row.set_far (Row.set_far HS4x.out hne) hne;generalize (W4.setCell ⟨w.heap.size+1+1+1,0,none⟩ (.slice A6 (zd0 l r m).parts.length c6)).setCell ⟨w.heap.size+1+1+1,1,none⟩ (.bool true)=W5 at hE hb hK ⊢;clear f0 f1 c0 c1;obtain⟨-,-,c0,c1⟩:=hE.all;exact bodyPost_ret (v:=.tuple #[.agg #[.slice A6 (zd0 l r m).parts.length c6,.bool true],.int .i64 0]) (by simp [results,results170,go_sem,c0,c1]) rfl ⟨hb,A6,c6,rfl,fun x hx=>by have h1:=HF.out x hx;have h2:=HB.out.size;omega,hK,HSZ.out⟩
def zd4 (w:World)(l r m:Pat)(e:Ending)(w':World):Prop:=Below w.heap.size w w'∧∃ A' c' C' d',e=.returned (.tuple #[.agg #[.bool false,.slice A' m.parts.length c',.bool true,.slice C' (zd0 l r m).parts.length d',.bool true],.bool true,.int .i64 0])∧zae w' (.slice A' m.parts.length c') m∧zae w' (.slice C' (zd0 l r m).parts.length d') (zd0 l r m)
theorem zd5 (ex:Bool)(l r h m:Pat)(A B C:Option Addr)(a b c:Nat)(w:World)(hl:zae w (.slice A l.parts.length a) l)(hh:zae w (.slice B h.parts.length b) h)(hr:zae w (.slice C r.parts.length c) r)(hn:zd1 l r h m):
  Calls prog 122 #[.agg #[.bool ex,.slice A l.parts.length a,.bool true,.slice C r.parts.length c,.bool true],.agg #[.slice B h.parts.length b,.bool h.rest]] w (zd4 w l r m):=by
 obtain⟨W1,hW1⟩:∃ W,W=((w.alloc (.cells #[.bool ex,.slice A l.parts.length a,.bool true,.slice C r.parts.length c,.bool true] 74)).alloc (.cells #[.slice B h.parts.length b,.bool h.rest] 68)).alloc (.cells #[.bool false,.slice none 0 0,.bool false,.slice none 0 0,.bool false] 74):=⟨_,rfl⟩;have hA:Below w.heap.size w W1:=by rw[hW1];exact (((Below.refl _ _).alloc (Nat.le_refl _) _).alloc (by simp) _).alloc (by simp;omega) _
 have h2:Blk W1 w.heap.size 74 [.bool ex,.slice A l.parts.length a,.bool true,.slice C r.parts.length c,.bool true]:=by rw[hW1];exact ((z0l w _ _).alloc _).alloc _
 have h3:zbt W1 (w.heap.size+1) (.slice B h.parts.length b) h.rest:=by
  rw[hW1];have:=z0l (w.alloc (.cells #[.bool ex,.slice A l.parts.length a,.bool true,.slice C r.parts.length c,.bool true] 74)) [.slice B h.parts.length b,.bool h.rest] 68;simp only[World.size_alloc] at this
  exact this.alloc _
 have h4:Blk W1 (w.heap.size+1+1) 74 [.bool false,.slice none 0 0,.bool false,.slice none 0 0,.bool false]:=by
  rw[hW1];have:=z0l ((w.alloc (.cells #[.bool ex,.slice A l.parts.length a,.bool true,.slice C r.parts.length c,.bool true] 74)).alloc (.cells #[.slice B h.parts.length b,.bool h.rest] 68)) [.bool false,.slice none 0 0,.bool false,.slice none 0 0,.bool false] 74;simp only[World.size_alloc] at this
  exact this
 have HRC:=hd_ (fun X (hX:Below w.heap.size w X)=>zaf ex l r A C a c X (hl.below hX) (hr.below hX));rw[hn.rule,hn.nl.rest,hn.nr.rest] at HRC;have HPC:=hd_ (fun X (hX:Below w.heap.size w X)=>za5 h B b X (hh.below hX).1 hh.small);rw[hn.hole] at HPC;have HME:=hd_ (fun X (hX:Below w.heap.size w X)=>zbw l h A B a b X (hl.below hX) (hh.below hX));rw[hn.nl.rest] at HME;have HCA:=hd_ (fun X (hX:Below w.heap.size w X) B' b' (hm:zae X (.slice B' m.parts.length b') m)=>zd3 l r h m A B' C a b' c X (hl.below hX) hm (hr.below hX) hn);have HMM:Hid (zan l h=some m∧m.rest=true):=hd_ ⟨hn.meet,hn.mr⟩;have HW1:=hd_ hW1;have H:=hd_ (And.intro hA (And.intro h2 (And.intro h3 h4)));clear hl hh hr hn hW1 hA h2 h3 h4;go_enter func122,ntmps122;go_upto_region 1 with fail;rw[← HW1.out];obtain⟨x0,x1,x2,x3,x4⟩:=(⟨H.out.2.1.cell 0,H.out.2.1.cell 1,H.out.2.1.cell 2,H.out.2.1.cell 3,H.out.2.1.cell 4⟩:W1.cell? ⟨w.heap.size,0,none⟩=some (.bool ex)∧W1.cell? ⟨w.heap.size,1,none⟩=some (.slice A l.parts.length a)∧W1.cell? ⟨w.heap.size,2,none⟩=some (.bool true)∧W1.cell? ⟨w.heap.size,3,none⟩=some (.slice C r.parts.length c)∧W1.cell? ⟨w.heap.size,4,none⟩=some (.bool true));have HC1:=hd_ (HRC.out W1 H.out.1);clear HRC;go_wp2_with fail;refine HC1.out.mono ?_;rintro e w2 ⟨rfl,hb⟩;have HB:=hd_ (z0r H.out.1 hb);have HG:=hd_ (And.intro (H.out.2.1.below hb H.out.2.1.lt) (And.intro (H.out.2.2.1.low hb) (H.out.2.2.2.below hb H.out.2.2.2.lt)));clear hb x0 x1 x2 x3 x4 HC1 H;have y0:=HG.out.2.1.c0;have y1:=HG.out.2.1.c1;have HC1:=hd_ (HPC.out w2 HB.out);clear HPC;go_wp2_with fail;refine HC1.out.mono ?_;rintro e w3 ⟨rfl,hb⟩;have HB:=hd_ (z0r HB.out hb);have HG:=hd_ (And.intro (HG.out.1.below hb HG.out.1.lt) (And.intro (HG.out.2.1.low hb) (HG.out.2.2.below hb HG.out.2.2.lt)));clear hb y0 y1 HC1;have y0:=HG.out.2.1.c0;have y1:=HG.out.2.1.c1;obtain⟨x1,x2⟩:=(⟨HG.out.1.cell 1,HG.out.1.cell 2⟩:w3.cell? ⟨w.heap.size,1,none⟩=some (.slice A l.parts.length a)∧w3.cell? ⟨w.heap.size,2,none⟩=some (.bool true));have hl3:w.heap.size+1+1<w3.heap.size:=HG.out.2.2.lt
 have HC1:=hd_ (HME.out w3 HB.out);clear HME;go_wp2_with fail;refine HC1.out.mono ?_;rintro e w4 ⟨hb,⟨hx,-⟩ | ⟨m',A6,c6,hmm,rfl,hfr,hpm⟩⟩
 ·rw[HMM.out.1] at hx;cases hx
 obtain rfl:m=m':=Option.some.inj (HMM.out.1.symm.trans hmm)
 rw[HMM.out.2];have HB4:=hd_ (z0r HB.out hb);have HG:=hd_ (And.intro (HG.out.1.below hb HG.out.1.lt) (HG.out.2.2.below hb HG.out.2.2.lt));have HF4:Hid (∀ x,(Value.slice A6 m.parts.length c6).ownBlock=some x→w.heap.size+1+1<x):=hd_ (fun x hx=>by have h1:=hfr x hx;omega)
 have HPM:=hd_ hpm;clear hb y0 y1 x1 x2 HC1 hmm hfr hpm hl3;have hX4:Below w4.heap.size w4 (w4.alloc (.cells #[.slice A6 m.parts.length c6,.bool true] 68)):=(Below.refl _ _).alloc (Nat.le_refl _) _;have HB5:=hd_ (z0r HB4.out hX4);have HG5:=hd_ (And.intro (HG.out.1.below hX4 HG.out.1.lt) (HG.out.2.below hX4 HG.out.2.lt));have HPM5:=hd_ (HPM.out.below hX4);have HN9:Hid (zbt (w4.alloc (.cells #[.slice A6 m.parts.length c6,.bool true] 68)) w4.heap.size (.slice A6 m.parts.length c6) true):=hd_ (z0l w4 [.slice A6 m.parts.length c6,.bool true] 68);clear hX4;go_upto_region 8 with fail;generalize w4.alloc (.cells #[.slice A6 m.parts.length c6,.bool true] 68)=W5 at HB5 HG5 HPM5 HN9 ⊢;generalize w4.heap.size=g9 at HN9 ⊢;obtain⟨x1,x2,x3,x4⟩:=(⟨HG5.out.1.cell 1,HG5.out.1.cell 2,HG5.out.1.cell 3,HG5.out.1.cell 4⟩:W5.cell? ⟨w.heap.size,1,none⟩=some (.slice A l.parts.length a)∧W5.cell? ⟨w.heap.size,2,none⟩=some (.bool true)∧W5.cell? ⟨w.heap.size,3,none⟩=some (.slice C r.parts.length c)∧W5.cell? ⟨w.heap.size,4,none⟩=some (.bool true));have y0:=HN9.out.c0;have y1:=HN9.out.c1;have HC1:=hd_ (HCA.out W5 HB5.out A6 c6 HPM5.out);have hl5:w.heap.size+1+1<W5.heap.size:=HG5.out.2.lt;clear HCA HG HB HB4 HPM;go_wp2_with fail;refine HC1.out.mono ?_;rintro e w6 ⟨hb,A7,c7,rfl,hfr,hpr⟩;have HB6:=hd_ (z0r HB5.out hb);have HZ6:=hd_ (HG5.out.2.below hb HG5.out.2.lt);have HPM6:=hd_ (HPM5.out.below hb);have HN9:=hd_ (HN9.out.low hb);have HF7:Hid (∀ x,(Value.slice A7 (zd0 l r m).parts.length c7).ownBlock=some x→w.heap.size+1+1<x):=hd_ (fun x hx=>by have h1:=hfr x hx;omega)
 have HPR:=hd_ hpr;clear hb hfr hpr x1 x2 x3 x4 y0 y1 HC1 HG5 HB5 HPM5;have hX6:Below w6.heap.size w6 (w6.alloc (.cells #[.slice A7 (zd0 l r m).parts.length c7,.bool true] 68)):=(Below.refl _ _).alloc (Nat.le_refl _) _;have HB7:=hd_ (z0r HB6.out hX6);have HZ7:=hd_ (HZ6.out.below hX6 HZ6.out.lt);have HPM7:=hd_ (HPM6.out.below hX6);have HPR7:=hd_ (HPR.out.below hX6);have HN97:=hd_ (HN9.out.low hX6);have HN11:Hid (zbt (w6.alloc (.cells #[.slice A7 (zd0 l r m).parts.length c7,.bool true] 68)) w6.heap.size (.slice A7 (zd0 l r m).parts.length c7) true):=hd_ (z0l w6 [.slice A7 (zd0 l r m).parts.length c7,.bool true] 68);clear hX6;go_upto_region 11 with fail;generalize w6.alloc (.cells #[.slice A7 (zd0 l r m).parts.length c7,.bool true] 68)=W7 at HB7 HZ7 HPM7 HPR7 HN97 HN11 ⊢;generalize w6.heap.size=g11 at HN11 ⊢;clear HB6 HZ6 HPM6 HPR HN9;have y0:=HN97.out.c0;have y1:=HN97.out.c1;have z0:=HN11.out.c0;have z1:=HN11.out.c1;obtain⟨u0,u1,u2,u3,u4⟩:=(⟨HZ7.out.cell 0,HZ7.out.cell 1,HZ7.out.cell 2,HZ7.out.cell 3,HZ7.out.cell 4⟩:W7.cell? ⟨w.heap.size+1+1,0,none⟩=some (.bool false)∧W7.cell? ⟨w.heap.size+1+1,1,none⟩=some (.slice none 0 0)∧W7.cell? ⟨w.heap.size+1+1,2,none⟩=some (.bool false)∧W7.cell? ⟨w.heap.size+1+1,3,none⟩=some (.slice none 0 0)∧W7.cell? ⟨w.heap.size+1+1,4,none⟩=some (.bool false));obtain⟨v0,v1,v2,v3,v4⟩:=(⟨HZ7.out.frozen 0,HZ7.out.frozen 1,HZ7.out.frozen 2,HZ7.out.frozen 3,HZ7.out.frozen 4⟩:W7.frozen? ⟨w.heap.size+1+1,0,none⟩=false∧W7.frozen? ⟨w.heap.size+1+1,1,none⟩=false∧W7.frozen? ⟨w.heap.size+1+1,2,none⟩=false∧W7.frozen? ⟨w.heap.size+1+1,3,none⟩=false∧W7.frozen? ⟨w.heap.size+1+1,4,none⟩=false);go_wp2_with fail;have hE:=((((HZ7.out.set_ 0 (.bool false)).set_ 1 (.slice A6 m.parts.length c6)).set_ 2 (.bool true)).set_ 3 (.slice A7 (zd0 l r m).parts.length c7)).set_ 4 (.bool true);have hb:=((((HB7.out.setCell (p:=⟨w.heap.size+1+1,0,none⟩) (by simp;omega) (.bool false)).setCell (p:=⟨w.heap.size+1+1,1,none⟩) (by simp;omega) (.slice A6 m.parts.length c6)).setCell (p:=⟨w.heap.size+1+1,2,none⟩) (by simp;omega) (.bool true)).setCell (p:=⟨w.heap.size+1+1,3,none⟩) (by simp;omega) (.slice A7 (zd0 l r m).parts.length c7)).setCell (p:=⟨w.heap.size+1+1,4,none⟩) (by simp;omega) (.bool true)
 have n6:(Value.slice A6 m.parts.length c6).ownBlock≠some (w.heap.size+1+1):=fun e=>by have:=HF4.out _ e;omega
 have n7:(Value.slice A7 (zd0 l r m).parts.length c7).ownBlock≠some (w.heap.size+1+1):=fun e=>by have:=HF7.out _ e;omega
 have hP:zae (((((W7.setCell ⟨w.heap.size+1+1,0,none⟩ (.bool false)).setCell ⟨w.heap.size+1+1,1,none⟩ (.slice A6 m.parts.length c6)).setCell ⟨w.heap.size+1+1,2,none⟩ (.bool true)).setCell ⟨w.heap.size+1+1,3,none⟩ (.slice A7 (zd0 l r m).parts.length c7)).setCell ⟨w.heap.size+1+1,4,none⟩ (.bool true)) (.slice A6 m.parts.length c6) m:=⟨Row.set_far (Row.set_far (Row.set_far (Row.set_far (Row.set_far HPM7.out.1 n6) n6) n6) n6) n6,HPM7.out.2⟩;have hQ:zae (((((W7.setCell ⟨w.heap.size+1+1,0,none⟩ (.bool false)).setCell ⟨w.heap.size+1+1,1,none⟩ (.slice A6 m.parts.length c6)).setCell ⟨w.heap.size+1+1,2,none⟩ (.bool true)).setCell ⟨w.heap.size+1+1,3,none⟩ (.slice A7 (zd0 l r m).parts.length c7)).setCell ⟨w.heap.size+1+1,4,none⟩ (.bool true)) (.slice A7 (zd0 l r m).parts.length c7) (zd0 l r m):=⟨Row.set_far (Row.set_far (Row.set_far (Row.set_far (Row.set_far HPR7.out.1 n7) n7) n7) n7) n7,HPR7.out.2⟩;generalize (((((W7.setCell ⟨w.heap.size+1+1,0,none⟩ (.bool false)).setCell ⟨w.heap.size+1+1,1,none⟩ (.slice A6 m.parts.length c6)).setCell ⟨w.heap.size+1+1,2,none⟩ (.bool true)).setCell ⟨w.heap.size+1+1,3,none⟩ (.slice A7 (zd0 l r m).parts.length c7)).setCell ⟨w.heap.size+1+1,4,none⟩ (.bool true))=W8 at hE hb hP hQ ⊢;have e0:=hE.cell 0;have e1:=hE.cell 1;have e2:=hE.cell 2;have e3:=hE.cell 3;have e4:=hE.cell 4;exact bodyPost_ret (v:=.tuple #[.agg #[.bool false,.slice A6 m.parts.length c6,.bool true,.slice A7 (zd0 l r m).parts.length c7,.bool true],.bool true,.int .i64 0]) (by simp [results,results122,go_sem,e0,e1,e2,e3,e4]) rfl ⟨hb,A6,c6,A7,c7,rfl,hP,hQ⟩
