/- The laws of plans: what a second plan has; plans beside a list of paths. No program in sight. -/
import Derived.Test.YtegeboijhifmcaaGreatDoorMgw9
import Derived.Test.YtegeboijhifmcaaGreatDoorMgw13
import Derived.Test.YtegeboijhifmcaaGreatDoorMzAlF
import Derived.Test.YtegeboijhifmcaaGreatDoorMgw10
import Derived.Test.YtegeboijhifmcaaGreatDoorMgw11
import Derived.Test.YtegeboijhifmcaaGreatDoorRows
import Derived.Test.YtegeboijhifmcaaGreatDoorMgw3
import Derived.Test.YtegeboijhifmcaaGreatDoorMgw8
import Derived.Test.YtegeboijhifmcaaGreatDoorMgw2
import Derived.Test.YtegeboijhifmcaaGreatDoorMgw14
import Derived.Deep.RegionLaw
import Derived.WalkKit
import Derived.WalkSpells
import Derived.WalkLawsBesides
import Derived.Lib.Hide
import Derived.Deep.QuietTactic
import Derived.BigQuiet
import Derived.Maps.AppendAt
import Derived.OwnWalkIn
import Derived.Lib.AppendStr
import Derived.Lib.Strings
import Derived.Deep.RegionHeld3
import Derived.Deep.MidRow
import Derived.StillTailTactics
import Derived.IntWalk
import Derived.Laws.EntriesVeiled
namespace Go.Proofs.YtegeboijhifmcaaGreatDoor
set_option linter.unusedVariables false
set_option linter.unusedSimpArgs false
set_option maxHeartbeats 8000000
set_option maxRecDepth 100000
open Go.RowKit
section
variable {hs ws : List Hav} {op dt : List ByteArray}
theorem z6m {α β:Type}{f g:α→Option β}:∀ {l:List α},(∀ x∈l,f x=g x)→l.filterMap f=l.filterMap g
 | [],_=>rfl
 | a :: l,h=>by
  rw[List.filterMap_cons,List.filterMap_cons,h a (List.mem_cons_self ..),z6m fun x hx=>h x (List.mem_cons_of_mem _ hx)]
end
def zc2 (l r:Pat)(s:ByteArray):Option ByteArray:=(z8e l s).map (zbu r)
def zc3 (w:World)(o:Option ByteArray)(e:Ending)(w':World):Prop:=e=.returned (.tuple #[.string (o.getD ⟨#[]⟩),.bool o.isSome])∧Below w.heap.size w w'
theorem zc4 (l r:Pat)(s:ByteArray)(A B:Option Addr)(a b:Nat)(w:World)(he:Env w)(hs:s.size≤1000000)(hl:za9 w (.slice A l.parts.length a) l)(hr:za9 w (.slice B r.parts.length b) r)(hf:∀ caps,z8e l s=some caps→zbv r caps):
  Calls Tryz.prog 85 #[.agg #[.slice A l.parts.length a,.bool l.rest],.agg #[.slice B r.parts.length b,.bool r.rest],.string s] w (zc3 w (zc2 l r s)):=by
 have hA:Below w.heap.size w ((w.alloc (.cells #[.slice A l.parts.length a,.bool l.rest] 97)).alloc (.cells #[.slice B r.parts.length b,.bool r.rest] 97)):=((Below.refl _ _).alloc (Nat.le_refl _) _).alloc (by simp) _
 have h2:zbo ((w.alloc (.cells #[.slice A l.parts.length a,.bool l.rest] 97)).alloc (.cells #[.slice B r.parts.length b,.bool r.rest] 97)) w.heap.size (.slice A l.parts.length a) l.rest:=(z0l w [.slice A l.parts.length a,.bool l.rest] 97).alloc _;have h3:zbo ((w.alloc (.cells #[.slice A l.parts.length a,.bool l.rest] 97)).alloc (.cells #[.slice B r.parts.length b,.bool r.rest] 97)) (w.heap.size+1) (.slice B r.parts.length b) r.rest:=by
  have:=z0l (w.alloc (.cells #[.slice A l.parts.length a,.bool l.rest] 97)) [.slice B r.parts.length b,.bool r.rest] 97;rw[World.size_alloc] at this;exact this
 have HM:=hd_ (fun X (hX:Below w.heap.size w X)=>zbk l s A a X (he.below hX) hs (hl.below hX).1 hl.small);have HFI:=hd_ (fun X (hX:Below w.heap.size w X) caps cv (hc:Strs X cv caps) (h:z8e l s=some caps)=>fill_ok r caps B b cv X (he.below hX) (hr.below hX) hc (hf caps h));have HT:Hid (zc2 l r s=(z8e l s).map (zbu r)):=hd_ rfl;clear he hl hr hf;go_enter Tryz.func85,Tryz.ntmps85;go_upto_region 1 with fail;generalize (w.alloc (.cells #[.slice A l.parts.length a,.bool l.rest] 97)).alloc (.cells #[.slice B r.parts.length b,.bool r.rest] 97)=W1 at hA h2 h3 ⊢;have x0:=h2.c0;have x1:=h2.c1;have HA:=hd_ hA;have H3:=hd_ h3;have HM1:=hd_ (HM.out W1 hA);clear h2 h3 hA HM;go_wp2_with fail;refine HM1.out.mono ?_;rintro e w2 ⟨A',n,c,rfl,hb,hm⟩;have HB:=hd_ (z0r HA.out hb);have h3:=H3.out.low hb;have y0:=h3.c0;have y1:=h3.c1;clear x0 x1 hb h3 HM1;obtain⟨o,ho⟩:∃ o,z8e l s=o:=⟨_,rfl⟩;have HO:=hd_ ho;rw[ho] at HT hm ⊢;clear ho;cases o with
 | none =>
  have HR:Hid (zc2 l r s=none):=hd_ (by rw[HT.out];rfl)
  clear hm HT;go_wp2_with fail;go_ret2;exact⟨by rw[HR.out];rfl,HB.out⟩
 | some caps =>
  have HR:Hid (zc2 l r s=some (zbu r caps)):=hd_ (by rw[HT.out];rfl)
  obtain⟨rfl,hcs⟩:=hm caps rfl;have HC:=hd_ (HFI.out w2 HB.out caps _ hcs HO.out);generalize zbu r caps=tx at HC HR;clear hm hcs HT HFI;go_wp2_with fail;refine HC.out.mono ?_;rintro e w3 ⟨rfl,hb⟩;have HB3:=hd_ (z0r HB.out hb);clear hb y0 y1;go_wp2_with fail;go_ret2;exact⟨by rw[HR.out];rfl,HB3.out⟩
theorem zc5 (ex:Bool)(l r:Pat)(s:ByteArray)(A B:Option Addr)(a b:Nat)(w:World)(he:Env w)(hs:s.size≤1000000)(hl:za9 w (.slice A l.parts.length a) l)(hr:za9 w (.slice B r.parts.length b) r)(h0:za8 l r=0)(hf:∀ caps,z8e l s=some caps→zbv r caps):
  Calls Tryz.prog 55 #[.agg #[.bool ex,.slice A l.parts.length a,.bool l.rest,.slice B r.parts.length b,.bool r.rest],.string s] w (zc3 w (zc2 l r s)):=by
 have hB:=z0l w [.bool ex,.slice A l.parts.length a,.bool l.rest,.slice B r.parts.length b,.bool r.rest] 119;have hA:Below w.heap.size w (w.alloc (.cells #[.bool ex,.slice A l.parts.length a,.bool l.rest,.slice B r.parts.length b,.bool r.rest] 119)):=(Below.refl _ _).alloc (Nat.le_refl _) _;have HC:=hd_ (fun X (hX:Below w.heap.size w X)=>zaa ex l r A B a b X (hl.below hX) (hr.below hX));rw[h0] at HC;have HT:=hd_ (fun X (hX:Below w.heap.size w X)=>zc4 l r s A B a b X (he.below hX) hs (hl.below hX) (hr.below hX) hf);clear he hl hr hf h0;generalize zc2 l r s=o at HT ⊢;go_enter Tryz.func55,Tryz.ntmps55;go_upto_region 1 with fail;generalize w.alloc (.cells #[.bool ex,.slice A l.parts.length a,.bool l.rest,.slice B r.parts.length b,.bool r.rest] 119)=W1 at hA hB ⊢;obtain⟨d0,d1,d2,d3,d4⟩:=(⟨hB.cell 0,hB.cell 1,hB.cell 2,hB.cell 3,hB.cell 4⟩:W1.cell? ⟨w.heap.size,0,none⟩=some (.bool ex)∧W1.cell? ⟨w.heap.size,1,none⟩=some (.slice A l.parts.length a)∧W1.cell? ⟨w.heap.size,2,none⟩=some (.bool l.rest)∧W1.cell? ⟨w.heap.size,3,none⟩=some (.slice B r.parts.length b)∧W1.cell? ⟨w.heap.size,4,none⟩=some (.bool r.rest));have HB:=hd_ hB;have HA:=hd_ hA;have HC1:=hd_ (HC.out W1 hA);clear hA hB HC;go_wp2_with fail;refine HC1.out.mono ?_;rintro e w2 ⟨rfl,hb⟩;have hB2:=HB.out.below hb HB.out.lt;have HB2:=hd_ (z0r HA.out hb);have HT2:=hd_ (HT.out w2 HB2.out);clear hb d0 d1 d2 d3 d4 HC1 HT;obtain⟨d1,d2,d3,d4⟩:=(⟨hB2.cell 1,hB2.cell 2,hB2.cell 3,hB2.cell 4⟩:w2.cell? ⟨w.heap.size,1,none⟩=some (.slice A l.parts.length a)∧w2.cell? ⟨w.heap.size,2,none⟩=some (.bool l.rest)∧w2.cell? ⟨w.heap.size,3,none⟩=some (.slice B r.parts.length b)∧w2.cell? ⟨w.heap.size,4,none⟩=some (.bool r.rest));clear hB2;go_wp2_with fail;refine HT2.out.mono ?_;rintro e w3 ⟨rfl,hb⟩;have HB3:=hd_ (z0r HB2.out hb);clear hb d1 d2 d3 d4;go_wp2_with fail;go_ret2;exact⟨rfl,HB3.out⟩
abbrev zd1:=Pat×Option Addr×Nat
def zd1.v (q:zd1):Value:=.slice q.2.1 q.1.parts.length q.2.2
def zd1.cells (q:zd1):List Value:=[q.v,.bool q.1.rest]
def zd2 (w:World)(v:Value)(hs:List zd1):Prop:=Row w 2 v hs.length (hs.flatMap zd1.cells)∧∀ q∈hs,za9 w q.v q.1
theorem zd2.below {w w':World}{v:Value}{hs:List zd1}(h:zd2 w v hs)(hb:Below w.heap.size w w'):zd2 w' v hs:=⟨Row.below h.1 hb,fun q hq=>(h.2 q hq).below hb⟩
theorem zd2.at_ {w:World}{A:Option Addr}{c:Nat}{hs:List zd1}(h:zd2 w (.slice A hs.length c) hs){k:Nat}(hk:k<hs.length):
  ∃ ad,A=some ad∧ad.block<w.heap.size∧w.cell? (ad.add (k * 2))=some hs[k].v∧w.cell? ⟨(ad.add (k * 2)).block,(ad.add (k * 2)).off+1,none⟩=some (.bool hs[k].1.rest):=by
 obtain⟨ad,e,hb,hc⟩:=z49 (f:=zd1.cells) (n:=2) (fun _=>rfl) h.1 hk;exact⟨ad,e,hb,hc 0 _ (by rfl),hc 1 _ (by rfl)⟩
def zd3 (b:Pat)(hs:List zd1):Int:=if z7e b≠0 then 50 else if (hs.all fun q=>decide (z7e q.1=0))=false then 51 else if 64<hs.length then 52 else 0
theorem zd4 {b:Pat}{hs:List zd1}(h:z7e b≠0):zd3 b hs=50:=if_pos h
theorem zd5 {b:Pat}{hs:List zd1}{k:Nat}(hb:z7e b=0)(hk:k<hs.length)(h:z7e hs[k].1≠0):zd3 b hs=51:=by
 unfold zd3;rw[if_neg (by rw[hb];simp),if_pos]
 rw[Bool.eq_false_iff];intro ha;exact h (by simpa using List.all_eq_true.1 ha _ (List.getElem_mem hk))
theorem zd6 {b:Pat}{hs:List zd1}(hb:z7e b=0)(h:∀ j (hj:j<hs.length),z7e hs[j].1=0):zd3 b hs=if 64<hs.length then 52 else 0:=by
 unfold zd3;rw[if_neg (by rw[hb];simp),if_neg]
 rw[Bool.not_eq_false];refine List.all_eq_true.2 fun q hq=>?_;obtain⟨j,hj,rfl⟩:=List.getElem_of_mem hq;simpa using h j hj
theorem zd7 (b:Pat)(hs:List zd1)(A H:Option Addr)(a c:Nat)(w:World)(hb:za9 w (.slice A b.parts.length a) b)(hh:zd2 w (.slice H hs.length c) hs)(hl:hs.length≤1000000):
  Calls Tryz.prog 82 #[.agg #[.slice A b.parts.length a,.bool b.rest,.slice H hs.length c]] w fun e w'=>e=.returned (.int .i64 (zd3 b hs))∧Below w.heap.size w w':=by
 have hB:=z0l w [.slice A b.parts.length a,.bool b.rest,.slice H hs.length c] 115;have hA:Below w.heap.size w (w.alloc (.cells #[.slice A b.parts.length a,.bool b.rest,.slice H hs.length c] 115)):=(Below.refl _ _).alloc (Nat.le_refl _) _;have HC:=hd_ (fun X (hX:Below w.heap.size w X)=>za0 b A a X (hb.below hX).1 hb.small);have HH:=hd_ hh;have HN1:=hd_ (@zd4 b hs);have HN2:=hd_ (fun k=>@zd5 b hs k);have HN3:=hd_ (@zd6 b hs);clear hb hh;go_enter Tryz.func82,Tryz.ntmps82;go_upto_region 1 with fail;generalize w.alloc (.cells #[.slice A b.parts.length a,.bool b.rest,.slice H hs.length c] 115)=W1 at hA hB ⊢;obtain⟨d0,d1⟩:=(⟨hB.cell 0,hB.cell 1⟩:W1.cell? ⟨w.heap.size,0,none⟩=some (.slice A b.parts.length a)∧W1.cell? ⟨w.heap.size,1,none⟩=some (.bool b.rest));have HB:=hd_ hB;have HA:=hd_ hA;have HC1:=hd_ (HC.out W1 hA);clear hA hB HC;obtain⟨pe,hpe⟩:∃ pe,z7e b=pe:=⟨_,rfl⟩;have HPE:=hd_ hpe;rw[hpe] at HC1;clear hpe;by_cases h0:pe=0
 case neg =>
  have q:(pe != 0)=true:=by simpa using h0
  have HR:=hd_ (HN1.out (by rw[HPE.out];exact h0))
  clear h0;go_wp2_with fail;refine HC1.out.mono ?_;rintro e w2 ⟨rfl,hb⟩;have HB2:=hd_ (z0r HA.out hb);clear hb d0 d1;go_wp2_with fail;go_ret;exact⟨z7j HR.out.symm,HB2.out⟩
 subst h0;go_wp2_with fail;refine HC1.out.mono ?_;rintro e w2 ⟨rfl,hb⟩;have HA:=hd_ (z0r HA.out hb);have HB:=hd_ (HB.out.below hb HB.out.lt);clear hb d0 d1 HC1;have d2:w2.cell? ⟨w.heap.size,2,none⟩=some (.slice H hs.length c):=HB.out.cell 2;go_wp2_with fail;go_loopw [12] (fun i wr=>∃ k:Nat,i=.int .i64 k∧k≤hs.length∧Hid ((∀ j (hj:j<hs.length),j<k→z7e hs[j].1=0)∧Below w2.heap.size w2 wr)) (fun i _=>hs.length - (intOf i).toNat)
 case atStart=>exact⟨0,rfl,Nat.zero_le _,hd_ ⟨fun j _ h=>by omega,Below.refl _ _⟩⟩
 case round =>
  obtain⟨k,rfl,hk,HI⟩:=hrel;clear d2;by_cases hlt:k<hs.length
  ·have HHX:=hd_ (HH.out.below (z0r HA.out HI.out.2));obtain⟨ad,rfl,hab,s0,s1⟩:=HHX.out.at_ hlt;have HPK:=hd_ (HHX.out.2 hs[k] (List.getElem_mem hlt));have HNO:=hd_ (HN2.out k HPE.out hlt);have HYE:Hid (z7e hs[k].1=0→∀ j (hj:j<hs.length),j<k+1→z7e hs[j].1=0):=hd_ (fun h j hj hjk=>by
    by_cases e:j=k
    ·subst e;exact h
    ·exact HI.out.1 j hj (by omega))
   generalize hs[k]=q at s0 s1 HPK HNO HYE;obtain⟨q,Aq,cq⟩:=q;change wr.cell? _=some (.slice Aq q.parts.length cq) at s0;change wr.cell? _=some (.bool q.rest) at s1;have hX:Below w2.heap.size w2 (wr.alloc (.cells #[.slice Aq q.parts.length cq,.bool q.rest] 97)):=HI.out.2.alloc HI.out.2.size _;have hbq:Below wr.heap.size wr (wr.alloc (.cells #[.slice Aq q.parts.length cq,.bool q.rest] 97)):=(Below.refl _ _).alloc (Nat.le_refl _) _;have HCQ:=hd_ (za0 q Aq cq (wr.alloc (.cells #[.slice Aq q.parts.length cq,.bool q.rest] 97)) (HPK.out.below hbq).1 HPK.out.small);have HX:=hd_ hX;clear hab hX hbq;obtain⟨qe,hqe⟩:∃ qe,z7e q=qe:=⟨_,rfl⟩;have HQE:=hd_ hqe;rw[hqe] at HCQ;clear hqe;have HLT:=hd_ hlt;by_cases h1:qe=0
   ·subst h1;have HN:=hd_ (HYE.out HQE.out);go_wp2_with fail;refine HCQ.out.mono ?_;rintro e w4 ⟨rfl,hb⟩;have HB4:=hd_ (z0r HX.out hb);clear hb s0 s1;go_wp2_with fail;go_roundw
    case rel=>exact⟨k+1,by go_num,by omega,hd_ ⟨HN.out,HB4.out⟩⟩
    case measure=>simp [intOf];omega
   ·have hq:(qe != 0)=true:=by simpa using h1
    have HR:=hd_ (HNO.out (by show z7e q≠0;rw[HQE.out];exact h1))
    clear h1;go_wp2_with fail;refine HCQ.out.mono ?_;rintro e w4 ⟨rfl,hb⟩;have HB4:=hd_ (z0r HA.out (z0r HX.out hb));clear hb s0 s1;go_wp2_with fail;go_ret;exact⟨z7j HR.out.symm,HB4.out⟩
  ·have hke:k=hs.length:=by omega
   subst hke;have HE:=hd_ (HN3.out HPE.out (fun j hj=>HI.out.1 j hj hj));have HBE:=hd_ (z0r HA.out HI.out.2);have d2:wr.cell? ⟨w.heap.size,2,none⟩=some (.slice H hs.length c):=(HB.out.below HI.out.2 HB.out.lt).cell 2;have hge:¬((hs.length:Int)<(hs.length:Int)):=by omega
   by_cases h6:64<hs.length
   ·have q6:decide ((64:Int)<(hs.length:Int))=true:=by simp;omega
    have q7:(64:Int)<(hs.length:Int):=by omega
    have HR:=hd_ (HE.out.trans (if_pos h6));clear h6;go_wp2_with fail;go_ret;exact⟨z7j HR.out.symm,HBE.out⟩
   ·have q6:decide ((64:Int)<(hs.length:Int))=false:=by simp;omega
    have q7:¬(64:Int)<(hs.length:Int):=by omega
    have HR:=hd_ (HE.out.trans (if_neg h6));clear h6;go_wp2_with fail;go_ret;exact⟨z7j HR.out.symm,HBE.out⟩
structure zd8 where
 l:zd1
 r:zd1
 hv:Value
 hs:List zd1
def zd8.cells (x:zd8):List Value:=[x.l.v,.bool x.l.1.rest,x.r.v,.bool x.r.1.rest,x.hv]
def zd8.val (x:zd8):Value:=.agg #[x.l.v,.bool x.l.1.rest,x.r.v,.bool x.r.1.rest,x.hv]
structure zd9 (w:World)(x:zd8):Prop where
 l:za9 w x.l.v x.l.1
 r:za9 w x.r.v x.r.1
 h:zd2 w x.hv x.hs
 n:x.hs.length≤1000
theorem zd9.below {w w':World}{x:zd8}(h:zd9 w x)(hb:Below w.heap.size w w'):zd9 w' x:=⟨h.l.below hb,h.r.below hb,h.h.below hb,h.n⟩
theorem zda (A B:Option Addr)(n m a b:Nat)(x y:Bool)(h0:Value)(w:World):Calls Tryz.prog 56 #[.agg #[(.slice A n a),(.bool x),(.slice B m b),(.bool y),h0]] w fun e w'=>e=.returned (.agg #[.bool false,(.slice A n a),(.bool x),(.slice B m b),(.bool y)])∧Below w.heap.size w w':=by
 have hB:=z0l w [(.slice A n a),(.bool x),(.slice B m b),(.bool y),h0] 100;have hA:Below w.heap.size w (w.alloc (.cells #[(.slice A n a),(.bool x),(.slice B m b),(.bool y),h0] 100)):=(Below.refl _ _).alloc (Nat.le_refl _) _;go_enter Tryz.func56,Tryz.ntmps56;go_upto_region 1 with fail;have hZ:=z0l (w.alloc (.cells #[(.slice A n a),(.bool x),(.slice B m b),(.bool y),h0] 100)) [.bool false,.slice none 0 0,.bool false,.slice none 0 0,.bool false] 119;rw[World.size_alloc] at hZ;have hB1:=hB.alloc (.cells #[.bool false,.slice none 0 0,.bool false,.slice none 0 0,.bool false] 119);have hA1:=hA.alloc (by simp:w.heap.size≤_) (.cells #[.bool false,.slice none 0 0,.bool false,.slice none 0 0,.bool false] 119)
 generalize (w.alloc (.cells #[(.slice A n a),(.bool x),(.slice B m b),(.bool y),h0] 100)).alloc (.cells #[.bool false,.slice none 0 0,.bool false,.slice none 0 0,.bool false] 119)=W1 at hZ hB1 hA1 ⊢;obtain⟨d0,d1,d2,d3⟩:=(⟨hB1.cell 0,hB1.cell 1,hB1.cell 2,hB1.cell 3⟩:W1.cell? ⟨w.heap.size,0,none⟩=some (.slice A n a)∧W1.cell? ⟨w.heap.size,1,none⟩=some (.bool x)∧W1.cell? ⟨w.heap.size,2,none⟩=some (.slice B m b)∧W1.cell? ⟨w.heap.size,3,none⟩=some (.bool y));obtain⟨z0,z1,z2,z3,z4⟩:=(⟨hZ.cell 0,hZ.cell 1,hZ.cell 2,hZ.cell 3,hZ.cell 4⟩:W1.cell? ⟨w.heap.size+1,0,none⟩=some (.bool false)∧W1.cell? ⟨w.heap.size+1,1,none⟩=some (.slice none 0 0)∧W1.cell? ⟨w.heap.size+1,2,none⟩=some (.bool false)∧W1.cell? ⟨w.heap.size+1,3,none⟩=some (.slice none 0 0)∧W1.cell? ⟨w.heap.size+1,4,none⟩=some (.bool false));obtain⟨y0,y1,y2,y3,y4⟩:=(⟨hZ.frozen 0,hZ.frozen 1,hZ.frozen 2,hZ.frozen 3,hZ.frozen 4⟩:W1.frozen? ⟨w.heap.size+1,0,none⟩=false∧W1.frozen? ⟨w.heap.size+1,1,none⟩=false∧W1.frozen? ⟨w.heap.size+1,2,none⟩=false∧W1.frozen? ⟨w.heap.size+1,3,none⟩=false∧W1.frozen? ⟨w.heap.size+1,4,none⟩=false);go_wp2_with fail;have hE:=((((hZ.set_ 0 (.bool false)).set_ 1 (.slice A n a)).set_ 2 (.bool x)).set_ 3 (.slice B m b)).set_ 4 (.bool y);have hb:=((((hA1.setCell (p:=⟨w.heap.size+1,0,none⟩) (by simp) (.bool false)).setCell (p:=⟨w.heap.size+1,1,none⟩) (by simp) (.slice A n a)).setCell (p:=⟨w.heap.size+1,2,none⟩) (by simp) (.bool x)).setCell (p:=⟨w.heap.size+1,3,none⟩) (by simp) (.slice B m b)).setCell (p:=⟨w.heap.size+1,4,none⟩) (by simp) (.bool y)
 generalize ((((W1.setCell ⟨w.heap.size+1,0,none⟩ (.bool false)).setCell ⟨w.heap.size+1,1,none⟩ (.slice A n a)).setCell ⟨w.heap.size+1,2,none⟩ (.bool x)).setCell ⟨w.heap.size+1,3,none⟩ (.slice B m b)).setCell ⟨w.heap.size+1,4,none⟩ (.bool y)=W3 at hE hb ⊢;have e0:=hE.cell 0;have e1:=hE.cell 1;have e2:=hE.cell 2;have e3:=hE.cell 3;have e4:=hE.cell 4;exact bodyPost_ret (v:=.agg #[.bool false,.slice A n a,.bool x,.slice B m b,.bool y]) (by simp [results,Tryz.results56,go_sem,e0,e1,e2,e3,e4]) rfl ⟨rfl,hb⟩
theorem zdb (A H:Option Addr)(n a k c:Nat)(x y:Bool)(r0:Value)(w:World):Calls Tryz.prog 54 #[.agg #[.slice A n a,.bool x,r0,.bool y,.slice H k c]] w fun e w'=>e=.returned (.agg #[.slice A n a,.bool x,.slice H k c])∧Below w.heap.size w w':=by
 have hB:=z0l w [.slice A n a,.bool x,r0,.bool y,.slice H k c] 100;have hA:Below w.heap.size w (w.alloc (.cells #[.slice A n a,.bool x,r0,.bool y,.slice H k c] 100)):=(Below.refl _ _).alloc (Nat.le_refl _) _;go_enter Tryz.func54,Tryz.ntmps54;go_upto_region 1 with fail;have hZ:=z0l (w.alloc (.cells #[.slice A n a,.bool x,r0,.bool y,.slice H k c] 100)) [.slice none 0 0,.bool false,.slice none 0 0] 115;rw[World.size_alloc] at hZ;have hB1:=hB.alloc (.cells #[.slice none 0 0,.bool false,.slice none 0 0] 115);have hA1:=hA.alloc (by simp:w.heap.size≤_) (.cells #[.slice none 0 0,.bool false,.slice none 0 0] 115)
 generalize (w.alloc (.cells #[.slice A n a,.bool x,r0,.bool y,.slice H k c] 100)).alloc (.cells #[.slice none 0 0,.bool false,.slice none 0 0] 115)=W1 at hZ hB1 hA1 ⊢;obtain⟨d0,d1,d4⟩:=(⟨hB1.cell 0,hB1.cell 1,hB1.cell 4⟩:W1.cell? ⟨w.heap.size,0,none⟩=some (.slice A n a)∧W1.cell? ⟨w.heap.size,1,none⟩=some (.bool x)∧W1.cell? ⟨w.heap.size,4,none⟩=some (.slice H k c));obtain⟨z0,z1,z2⟩:=(⟨hZ.cell 0,hZ.cell 1,hZ.cell 2⟩:W1.cell? ⟨w.heap.size+1,0,none⟩=some (.slice none 0 0)∧W1.cell? ⟨w.heap.size+1,1,none⟩=some (.bool false)∧W1.cell? ⟨w.heap.size+1,2,none⟩=some (.slice none 0 0));obtain⟨y0,y1,y2⟩:=(⟨hZ.frozen 0,hZ.frozen 1,hZ.frozen 2⟩:W1.frozen? ⟨w.heap.size+1,0,none⟩=false∧W1.frozen? ⟨w.heap.size+1,1,none⟩=false∧W1.frozen? ⟨w.heap.size+1,2,none⟩=false);go_wp2_with fail;have hE:=((hZ.set_ 0 (.slice A n a)).set_ 1 (.bool x)).set_ 2 (.slice H k c);have hb:=((hA1.setCell (p:=⟨w.heap.size+1,0,none⟩) (by simp) (.slice A n a)).setCell (p:=⟨w.heap.size+1,1,none⟩) (by simp) (.bool x)).setCell (p:=⟨w.heap.size+1,2,none⟩) (by simp) (.slice H k c)
 generalize ((W1.setCell ⟨w.heap.size+1,0,none⟩ (.slice A n a)).setCell ⟨w.heap.size+1,1,none⟩ (.bool x)).setCell ⟨w.heap.size+1,2,none⟩ (.slice H k c)=W3 at hE hb ⊢;have e0:=hE.cell 0;have e1:=hE.cell 1;have e2:=hE.cell 2;exact bodyPost_ret (v:=.agg #[.slice A n a,.bool x,.slice H k c]) (by simp [results,Tryz.results54,go_sem,e0,e1,e2]) rfl ⟨rfl,hb⟩
theorem zdc (l r:Pat)(hs:List zd1)(A B H:Option Addr)(a b c:Nat)(w:World)(hl:za9 w (.slice A l.parts.length a) l)(hr:za9 w (.slice B r.parts.length b) r)(hh:zd2 w (.slice H hs.length c) hs)(hn:hs.length≤1000000)(e1:za8 l r=0)(e2:zd3 l hs=0):
  Calls Tryz.prog 64 #[.agg #[.slice A l.parts.length a,.bool l.rest,.slice B r.parts.length b,.bool r.rest,.slice H hs.length c]] w fun e w'=>e=.returned (.bool true)∧Below w.heap.size w w':=by
 have hB:=z0l w [.slice A l.parts.length a,.bool l.rest,.slice B r.parts.length b,.bool r.rest,.slice H hs.length c] 100;have hA:Below w.heap.size w (w.alloc (.cells #[.slice A l.parts.length a,.bool l.rest,.slice B r.parts.length b,.bool r.rest,.slice H hs.length c] 100)):=(Below.refl _ _).alloc (Nat.le_refl _) _;have HLI:=hd_ (fun X=>zda A B l.parts.length r.parts.length a b l.rest r.rest (.slice H hs.length c) X);have HLE:=hd_ (fun X=>zdb A H l.parts.length a hs.length c l.rest r.rest (.slice B r.parts.length b) X);have HRC:=hd_ (fun X (hX:Below w.heap.size w X)=>zaa false l r A B a b X (hl.below hX) (hr.below hX));have HGC:=hd_ (fun X (hX:Below w.heap.size w X)=>zd7 l hs A H a c X (hl.below hX) (hh.below hX) hn);rw[e1] at HRC;rw[e2] at HGC;clear hl hr hh hn e1 e2;go_enter Tryz.func64,Tryz.ntmps64;go_upto_region 1 with fail;generalize w.alloc (.cells #[.slice A l.parts.length a,.bool l.rest,.slice B r.parts.length b,.bool r.rest,.slice H hs.length c] 100)=W1 at hA hB ⊢;obtain⟨d0,d1,d2,d3,d4⟩:=(⟨hB.cell 0,hB.cell 1,hB.cell 2,hB.cell 3,hB.cell 4⟩:W1.cell? ⟨w.heap.size,0,none⟩=some (.slice A l.parts.length a)∧W1.cell? ⟨w.heap.size,1,none⟩=some (.bool l.rest)∧W1.cell? ⟨w.heap.size,2,none⟩=some (.slice B r.parts.length b)∧W1.cell? ⟨w.heap.size,3,none⟩=some (.bool r.rest)∧W1.cell? ⟨w.heap.size,4,none⟩=some (.slice H hs.length c));have HB:=hd_ hB;have HA:=hd_ hA;clear hA hB;go_wp2_with fail;refine (HLI.out W1).mono ?_;rintro e w2 ⟨rfl,hb⟩;have HA2:=hd_ (z0r HA.out hb);have HB2:=hd_ (HB.out.below hb HB.out.lt);clear hb d0 d1 d2 d3 d4;go_wp2_with fail;refine (HRC.out w2 HA2.out).mono ?_;rintro e w3 ⟨rfl,hb⟩;have HA3:=hd_ (z0r HA2.out hb);have hB3:=HB2.out.below hb HB2.out.lt;clear hb;obtain⟨d0,d1,d2,d3,d4⟩:=(⟨hB3.cell 0,hB3.cell 1,hB3.cell 2,hB3.cell 3,hB3.cell 4⟩:w3.cell? ⟨w.heap.size,0,none⟩=some (.slice A l.parts.length a)∧w3.cell? ⟨w.heap.size,1,none⟩=some (.bool l.rest)∧w3.cell? ⟨w.heap.size,2,none⟩=some (.slice B r.parts.length b)∧w3.cell? ⟨w.heap.size,3,none⟩=some (.bool r.rest)∧w3.cell? ⟨w.heap.size,4,none⟩=some (.slice H hs.length c))
 clear hB3;go_wp2_with fail;refine (HLE.out w3).mono ?_;rintro e w4 ⟨rfl,hb⟩;have HA4:=hd_ (z0r HA3.out hb);clear hb d0 d1 d2 d3 d4;go_wp2_with fail;refine (HGC.out w4 HA4.out).mono ?_;rintro e w5 ⟨rfl,hb⟩;have HA5:=hd_ (z0r HA4.out hb);clear hb;go_wp2_with fail;go_ret;exact⟨rfl,HA5.out⟩
theorem zdh (p q:Pat)(A B:Option Addr)(a b:Nat)(hv hu:Value)(w:World)(hp:za9 w (.slice A p.parts.length a) p)(hq:za9 w (.slice B q.parts.length b) q)(hm:zai p q=none):
  Calls Tryz.prog 66 #[.agg #[.slice A p.parts.length a,.bool p.rest,hv],.agg #[.slice B q.parts.length b,.bool q.rest,hu]] w fun e w'=>e=.returned (.bool false)∧Below w.heap.size w w':=by
 obtain⟨W1,hW1⟩:∃ W,W=(w.alloc (.cells #[.slice A p.parts.length a,.bool p.rest,hv] 115)).alloc (.cells #[.slice B q.parts.length b,.bool q.rest,hu] 115):=⟨_,rfl⟩;have hA:Below w.heap.size w W1:=by rw[hW1];exact ((Below.refl _ _).alloc (Nat.le_refl _) _).alloc (by simp) _
 have h2:Blk W1 w.heap.size 115 [.slice A p.parts.length a,.bool p.rest,hv]:=by rw[hW1];exact (z0l w _ _).alloc _
 have h3:Blk W1 (w.heap.size+1) 115 [.slice B q.parts.length b,.bool q.rest,hu]:=by
  rw[hW1];have:=z0l (w.alloc (.cells #[.slice A p.parts.length a,.bool p.rest,hv] 115)) [.slice B q.parts.length b,.bool q.rest,hu] 115;simp only[World.size_alloc] at this
  exact this
 have HME:=hd_ (zbr p q A B a b W1 (hp.below hA) (hq.below hA));have HM:=hd_ hm;have HA:=hd_ hA;have HW1:=hd_ hW1;obtain⟨x0,x1⟩:=(⟨h2.cell 0,h2.cell 1⟩:W1.cell? ⟨w.heap.size,0,none⟩=some (.slice A p.parts.length a)∧W1.cell? ⟨w.heap.size,1,none⟩=some (.bool p.rest));obtain⟨y0,y1⟩:=(⟨h3.cell 0,h3.cell 1⟩:W1.cell? ⟨w.heap.size+1,0,none⟩=some (.slice B q.parts.length b)∧W1.cell? ⟨w.heap.size+1,1,none⟩=some (.bool q.rest));clear hp hq hm hA hW1 h2 h3;go_enter Tryz.func66,Tryz.ntmps66;go_upto_region 1 with fail;rw[← HW1.out];go_wp2_with fail;refine HME.out.mono ?_;rintro e w4 ⟨hb,⟨-,rfl⟩ | ⟨m',A6,c6,hmm,-⟩⟩
 case inr=>rw[HM.out] at hmm;cases hmm
 have HB:=hd_ (z0r HA.out hb);have hX:Below w4.heap.size w4 (w4.alloc (.cells #[.slice none 0 0,.bool false] 97)):=(Below.refl _ _).alloc (Nat.le_refl _) _;have HB5:=hd_ (z0r HB.out hX);clear x0 x1 y0 y1 hb hX;go_upto_region 2 with fail;generalize w4.alloc (.cells #[.slice none 0 0,.bool false] 97)=W5 at HB5 ⊢;go_quiet (fail)
 go_wp2_with fail;go_ret;exact⟨rfl,HB5.out.trans ((below_drewN W5 _).mono HB5.out.size)⟩
def zhu (n:Nat):Code→Bool
 | .region i _ _=>i == n
 | .seq a b=>zhu n a || zhu n b
 | .cond _ a b=>zhu n a || zhu n b
 | .block _ a=>zhu n a
 | .loop a=>zhu n a
 | _=>false
def zhv (n:Nat):Code→Option Code
 | .seq a b=>if zhu n a then some (.seq a b) else zhv n b
 | c=>if zhu n c then some c else none
theorem zhx {w:World}{g:Nat}{e:TypeId}{a b c d x:Value}(h:Blk w g e [a,b,c,d,x]):
  w.cell? ⟨g,0,none⟩=some a∧w.cell? ⟨g,1,none⟩=some b∧w.cell? ⟨g,2,none⟩=some c∧w.cell? ⟨g,3,none⟩=some d∧w.cell? ⟨g,4,none⟩=some x:=
 ⟨h.cell 0,h.cell 1,h.cell 2,h.cell 3,h.cell 4⟩
def zhy (n:Int)(x:Edt):Rev:=⟨x.path,x.base+1,n,x.act,x.ty,x.sum,x.size,x.frm,x.fnum⟩
theorem zhz (num:Int)(cl tx:ByteArray)(Ae Ac:Option Addr)(ne nc ce cc:Nat)(x:Edt)(w:World)(hb:0≤x.base∧x.base≤1000000):
  Calls Tryz.prog 87 #[.agg #[.int .i64 num,.string cl,.string tx,.slice Ae ne ce,.slice Ac nc cc],.agg #[.string x.path,.int .i64 x.act,.int .i64 x.ty.base,.bool x.ty.k,.bool x.ty.l,.bool x.ty.x,.int .u64 x.sum,.int .i64 x.size,.int .i64 x.base,.string x.frm,.int .i64 x.fnum,.int .i64 x.fence]] w fun e w'=>e=.returned (.agg #[.string (zhy num x).path,.int .i64 (zhy num x).num,.int .i64 (zhy num x).chg,.int .i64 (zhy num x).act,.int .i64 (zhy num x).ty.base,.bool (zhy num x).ty.k,.bool (zhy num x).ty.l,.bool (zhy num x).ty.x,.int .u64 (zhy num x).sum,.int .i64 (zhy num x).size,.string (zhy num x).frm,.int .i64 (zhy num x).fnum])∧Below w.heap.size w w':=by
 have hb0:Below w.heap.size w (((w.alloc (.cells #[.int .i64 num,.string cl,.string tx,.slice Ae ne ce,.slice Ac nc cc] 95)).alloc (.cells #[.string x.path,.int .i64 x.act,.int .i64 x.ty.base,.bool x.ty.k,.bool x.ty.l,.bool x.ty.x,.int .u64 x.sum,.int .i64 x.size,.int .i64 x.base,.string x.frm,.int .i64 x.fnum,.int .i64 x.fence] 90)).alloc (.cells #[.string ⟨#[]⟩,.int .i64 0,.int .i64 0,.int .i64 0,.int .i64 0,.bool false,.bool false,.bool false,.int .u64 0,.int .i64 0,.string ⟨#[]⟩,.int .i64 0] 66)):=(((Below.refl _ _).alloc (Nat.le_refl _) _).alloc (by simp) _).alloc (by simp;omega) _
 have hZ:Blk (((w.alloc (.cells #[.int .i64 num,.string cl,.string tx,.slice Ae ne ce,.slice Ac nc cc] 95)).alloc (.cells #[.string x.path,.int .i64 x.act,.int .i64 x.ty.base,.bool x.ty.k,.bool x.ty.l,.bool x.ty.x,.int .u64 x.sum,.int .i64 x.size,.int .i64 x.base,.string x.frm,.int .i64 x.fnum,.int .i64 x.fence] 90)).alloc (.cells #[.string ⟨#[]⟩,.int .i64 0,.int .i64 0,.int .i64 0,.int .i64 0,.bool false,.bool false,.bool false,.int .u64 0,.int .i64 0,.string ⟨#[]⟩,.int .i64 0] 66)) (w.heap.size+1+1) 66 [.string ⟨#[]⟩,.int .i64 0,.int .i64 0,.int .i64 0,.int .i64 0,.bool false,.bool false,.bool false,.int .u64 0,.int .i64 0,.string ⟨#[]⟩,.int .i64 0]:=by
  have h1:=z0l ((w.alloc (.cells #[.int .i64 num,.string cl,.string tx,.slice Ae ne ce,.slice Ac nc cc] 95)).alloc (.cells #[.string x.path,.int .i64 x.act,.int .i64 x.ty.base,.bool x.ty.k,.bool x.ty.l,.bool x.ty.x,.int .u64 x.sum,.int .i64 x.size,.int .i64 x.base,.string x.frm,.int .i64 x.fnum,.int .i64 x.fence] 90)) [.string ⟨#[]⟩,.int .i64 0,.int .i64 0,.int .i64 0,.int .i64 0,.bool false,.bool false,.bool false,.int .u64 0,.int .i64 0,.string ⟨#[]⟩,.int .i64 0] 66;simp only[World.size_alloc] at h1
  exact h1
 have hV:Blk (((w.alloc (.cells #[.int .i64 num,.string cl,.string tx,.slice Ae ne ce,.slice Ac nc cc] 95)).alloc (.cells #[.string x.path,.int .i64 x.act,.int .i64 x.ty.base,.bool x.ty.k,.bool x.ty.l,.bool x.ty.x,.int .u64 x.sum,.int .i64 x.size,.int .i64 x.base,.string x.frm,.int .i64 x.fnum,.int .i64 x.fence] 90)).alloc (.cells #[.string ⟨#[]⟩,.int .i64 0,.int .i64 0,.int .i64 0,.int .i64 0,.bool false,.bool false,.bool false,.int .u64 0,.int .i64 0,.string ⟨#[]⟩,.int .i64 0] 66)) (w.heap.size+1) 90 [.string x.path,.int .i64 x.act,.int .i64 x.ty.base,.bool x.ty.k,.bool x.ty.l,.bool x.ty.x,.int .u64 x.sum,.int .i64 x.size,.int .i64 x.base,.string x.frm,.int .i64 x.fnum,.int .i64 x.fence]:=by
  have h1:=(z0l (w.alloc (.cells #[.int .i64 num,.string cl,.string tx,.slice Ae ne ce,.slice Ac nc cc] 95)) [.string x.path,.int .i64 x.act,.int .i64 x.ty.base,.bool x.ty.k,.bool x.ty.l,.bool x.ty.x,.int .u64 x.sum,.int .i64 x.size,.int .i64 x.base,.string x.frm,.int .i64 x.fnum,.int .i64 x.fence] 90).alloc (.cells #[.string ⟨#[]⟩,.int .i64 0,.int .i64 0,.int .i64 0,.int .i64 0,.bool false,.bool false,.bool false,.int .u64 0,.int .i64 0,.string ⟨#[]⟩,.int .i64 0] 66);simp only[World.size_alloc] at h1
  exact h1
 have hB:Blk (((w.alloc (.cells #[.int .i64 num,.string cl,.string tx,.slice Ae ne ce,.slice Ac nc cc] 95)).alloc (.cells #[.string x.path,.int .i64 x.act,.int .i64 x.ty.base,.bool x.ty.k,.bool x.ty.l,.bool x.ty.x,.int .u64 x.sum,.int .i64 x.size,.int .i64 x.base,.string x.frm,.int .i64 x.fnum,.int .i64 x.fence] 90)).alloc (.cells #[.string ⟨#[]⟩,.int .i64 0,.int .i64 0,.int .i64 0,.int .i64 0,.bool false,.bool false,.bool false,.int .u64 0,.int .i64 0,.string ⟨#[]⟩,.int .i64 0] 66)) w.heap.size 95 [.int .i64 num,.string cl,.string tx,.slice Ae ne ce,.slice Ac nc cc]:=((z0l w _ _).alloc _).alloc _;have b0:0≤x.base:=hb.1;have b1:x.base≤1000000:=hb.2;clear hb;go_enter Tryz.func87,Tryz.ntmps87;go_upto_region 1 with fail;generalize ((w.alloc (.cells #[.int .i64 num,.string cl,.string tx,.slice Ae ne ce,.slice Ac nc cc] 95)).alloc (.cells #[.string x.path,.int .i64 x.act,.int .i64 x.ty.base,.bool x.ty.k,.bool x.ty.l,.bool x.ty.x,.int .u64 x.sum,.int .i64 x.size,.int .i64 x.base,.string x.frm,.int .i64 x.fnum,.int .i64 x.fence] 90)).alloc (.cells #[.string ⟨#[]⟩,.int .i64 0,.int .i64 0,.int .i64 0,.int .i64 0,.bool false,.bool false,.bool false,.int .u64 0,.int .i64 0,.string ⟨#[]⟩,.int .i64 0] 66)=W1 at hb0 hZ hV hB ⊢;obtain⟨d0,d1,d2,d3,d4⟩:=zhx hB;obtain⟨c0,c1,c2,c3,c4,c5,c6,c7,c8,c9,c10,c11⟩:=z7z hV;obtain⟨z0,z1,z2,z3,z4,z5,z6,z7,z8,z9,z10,z11⟩:=z7z hZ;obtain⟨y0,y1,y2,y3,y4,y5,y6,y7,y8,y9,y10,y11⟩:=zdz hZ;have HZ:=hd_ hZ;have Hb0:=hd_ hb0;clear hb0 hZ hV hB;go_wp2_with fail;have hZ3:=ze0 HZ.out (zhy num x);have hB3:=ze1 Hb0.out (show w.heap.size≤w.heap.size+1+1 by omega) (zhy num x)
 clear d0 d1 d2 d3 d4 c0 c1 c2 c3 c4 c5 c6 c7 c8 c9 c10 c11 z0 z1 z2 z3 z4 z5 z6 z7 z8 z9 z10 z11 y0 y1 y2 y3 y4 y5 y6 y7 y8 y9 y10 y11;have e:((((((((((((W1.setCell ⟨w.heap.size+1+1,0,none⟩ (.string (zhy num x).path)).setCell ⟨w.heap.size+1+1,1,none⟩ (.int .i64 (zhy num x).num)).setCell ⟨w.heap.size+1+1,2,none⟩ (.int .i64 (zhy num x).chg)).setCell ⟨w.heap.size+1+1,3,none⟩ (.int .i64 (zhy num x).act)).setCell ⟨w.heap.size+1+1,4,none⟩ (.int .i64 (zhy num x).ty.base)).setCell ⟨w.heap.size+1+1,5,none⟩ (.bool (zhy num x).ty.k)).setCell ⟨w.heap.size+1+1,6,none⟩ (.bool (zhy num x).ty.l)).setCell ⟨w.heap.size+1+1,7,none⟩ (.bool (zhy num x).ty.x)).setCell ⟨w.heap.size+1+1,8,none⟩ (.int .u64 (zhy num x).sum)).setCell ⟨w.heap.size+1+1,9,none⟩ (.int .i64 (zhy num x).size)).setCell ⟨w.heap.size+1+1,10,none⟩ (.string (zhy num x).frm)).setCell ⟨w.heap.size+1+1,11,none⟩ (.int .i64 (zhy num x).fnum))=((((((((((((W1.setCell ⟨w.heap.size+1+1,0,none⟩ (.string ((⟨x.path,x.base+1,num,x.act,x.ty,x.sum,x.size,x.frm,x.fnum⟩:Rev)).path)).setCell ⟨w.heap.size+1+1,1,none⟩ (.int .i64 ((⟨x.path,x.base+1,num,x.act,x.ty,x.sum,x.size,x.frm,x.fnum⟩:Rev)).num)).setCell ⟨w.heap.size+1+1,2,none⟩ (.int .i64 ((⟨x.path,x.base+1,num,x.act,x.ty,x.sum,x.size,x.frm,x.fnum⟩:Rev)).chg)).setCell ⟨w.heap.size+1+1,3,none⟩ (.int .i64 ((⟨x.path,x.base+1,num,x.act,x.ty,x.sum,x.size,x.frm,x.fnum⟩:Rev)).act)).setCell ⟨w.heap.size+1+1,4,none⟩ (.int .i64 ((⟨x.path,x.base+1,num,x.act,x.ty,x.sum,x.size,x.frm,x.fnum⟩:Rev)).ty.base)).setCell ⟨w.heap.size+1+1,5,none⟩ (.bool ((⟨x.path,x.base+1,num,x.act,x.ty,x.sum,x.size,x.frm,x.fnum⟩:Rev)).ty.k)).setCell ⟨w.heap.size+1+1,6,none⟩ (.bool ((⟨x.path,x.base+1,num,x.act,x.ty,x.sum,x.size,x.frm,x.fnum⟩:Rev)).ty.l)).setCell ⟨w.heap.size+1+1,7,none⟩ (.bool ((⟨x.path,x.base+1,num,x.act,x.ty,x.sum,x.size,x.frm,x.fnum⟩:Rev)).ty.x)).setCell ⟨w.heap.size+1+1,8,none⟩ (.int .u64 ((⟨x.path,x.base+1,num,x.act,x.ty,x.sum,x.size,x.frm,x.fnum⟩:Rev)).sum)).setCell ⟨w.heap.size+1+1,9,none⟩ (.int .i64 ((⟨x.path,x.base+1,num,x.act,x.ty,x.sum,x.size,x.frm,x.fnum⟩:Rev)).size)).setCell ⟨w.heap.size+1+1,10,none⟩ (.string ((⟨x.path,x.base+1,num,x.act,x.ty,x.sum,x.size,x.frm,x.fnum⟩:Rev)).frm)).setCell ⟨w.heap.size+1+1,11,none⟩ (.int .i64 ((⟨x.path,x.base+1,num,x.act,x.ty,x.sum,x.size,x.frm,x.fnum⟩:Rev)).fnum)):=rfl
 dsimp only at e
 rw[← e];generalize ((((((((((((W1.setCell ⟨w.heap.size+1+1,0,none⟩ (.string (zhy num x).path)).setCell ⟨w.heap.size+1+1,1,none⟩ (.int .i64 (zhy num x).num)).setCell ⟨w.heap.size+1+1,2,none⟩ (.int .i64 (zhy num x).chg)).setCell ⟨w.heap.size+1+1,3,none⟩ (.int .i64 (zhy num x).act)).setCell ⟨w.heap.size+1+1,4,none⟩ (.int .i64 (zhy num x).ty.base)).setCell ⟨w.heap.size+1+1,5,none⟩ (.bool (zhy num x).ty.k)).setCell ⟨w.heap.size+1+1,6,none⟩ (.bool (zhy num x).ty.l)).setCell ⟨w.heap.size+1+1,7,none⟩ (.bool (zhy num x).ty.x)).setCell ⟨w.heap.size+1+1,8,none⟩ (.int .u64 (zhy num x).sum)).setCell ⟨w.heap.size+1+1,9,none⟩ (.int .i64 (zhy num x).size)).setCell ⟨w.heap.size+1+1,10,none⟩ (.string (zhy num x).frm)).setCell ⟨w.heap.size+1+1,11,none⟩ (.int .i64 (zhy num x).fnum))=W3 at hZ3 hB3 ⊢;obtain⟨e0,e1,e2,e3,e4,e5,e6,e7,e8,e9,e10,e11⟩:=z7z hZ3;refine bodyPost_ret (v:=.agg #[.string (zhy num x).path,.int .i64 (zhy num x).num,.int .i64 (zhy num x).chg,.int .i64 (zhy num x).act,.int .i64 (zhy num x).ty.base,.bool (zhy num x).ty.k,.bool (zhy num x).ty.l,.bool (zhy num x).ty.x,.int .u64 (zhy num x).sum,.int .i64 (zhy num x).size,.string (zhy num x).frm,.int .i64 (zhy num x).fnum]) (by simp [results,Tryz.results87,go_sem,e0,e1,e2,e3,e4,e5,e6,e7,e8,e9,e10,e11]) rfl ⟨rfl,hB3⟩
def zi0 (revs:List Rev)(p:ByteArray):Bool:=match zgs revs p with
 | none=>false
 | some r=>z2v r.act
theorem zi1 {revs:List Rev}{p:ByteArray}:(zgs revs p=none→zi0 revs p=false)∧∀ r,zgs revs p=some r→zi0 revs p=z2v r.act:=by
 unfold zi0;exact⟨fun h=>by rw[h],fun r h=>by rw[h]⟩
theorem zi2 (revs:List Rev)(p:ByteArray)(dv dr:Value)(w:World)(hR:z45 w dv revs)(hl:revs.length≤1000000):
  Calls Tryz.prog 89 #[.agg #[dv,dr],.string p] w fun e w'=>e=.returned (.tuple #[.bool (zi0 revs p),.int .i64 (zec (zgs revs p)).num])∧Below w.heap.size w w':=by
 obtain⟨Ar,cr,rfl,-⟩:=id hR;have HR:=hd_ hR;clear hR;have HAT:=hd_ (@zi1 revs p);go_enter Tryz.func89,Tryz.ntmps89;have hb0:Below w.heap.size w (w.alloc (.cells #[.slice Ar revs.length cr,dr] 26)):=(Below.refl _ _).alloc (Nat.le_refl _) _;have hB:=z0l w [.slice Ar revs.length cr,dr] 26;go_upto_region 1 with fail;generalize w.alloc (.cells #[.slice Ar revs.length cr,dr] 26)=W1 at hb0 hB ⊢;obtain⟨d0,d1,-,-⟩:=box2 hB;have HLS:=hd_ (zh1 revs p (.slice Ar revs.length cr) dr W1 (HR.out.below hb0) hl);have Hb0:=hd_ hb0;clear hb0 hB;go_wp2_with fail;refine HLS.out.mono ?_;rintro e w2 ⟨rfl,hb2⟩;clear d0 d1 HLS;have HB2:=hd_ hb2;clear hb2;generalize hro:zgs revs p=o at HAT ⊢;have HRO:=hd_ hro;clear hro;cases o with
 | none =>
  have HN:=hd_ (HAT.out.1 rfl);have hY:=z0l w2 [.string z2m.path,.int .i64 z2m.num,.int .i64 z2m.chg,.int .i64 z2m.act,.int .i64 z2m.ty.base,.bool z2m.ty.k,.bool z2m.ty.l,.bool z2m.ty.x,.int .u64 z2m.sum,.int .i64 z2m.size,.string z2m.frm,.int .i64 z2m.fnum] 66;have hA5:Below w.heap.size w (w2.alloc (.cells #[.string z2m.path,.int .i64 z2m.num,.int .i64 z2m.chg,.int .i64 z2m.act,.int .i64 z2m.ty.base,.bool z2m.ty.k,.bool z2m.ty.l,.bool z2m.ty.x,.int .u64 z2m.sum,.int .i64 z2m.size,.string z2m.frm,.int .i64 z2m.fnum] 66)):=z0r Hb0.out (zcf HB2.out _);have hsu:zec none=z2m:=rfl;go_upto_region 2 with fail;clear hsu HAT;generalize w2.alloc (.cells #[.string z2m.path,.int .i64 z2m.num,.int .i64 z2m.chg,.int .i64 z2m.act,.int .i64 z2m.ty.base,.bool z2m.ty.k,.bool z2m.ty.l,.bool z2m.ty.x,.int .u64 z2m.sum,.int .i64 z2m.size,.string z2m.frm,.int .i64 z2m.fnum] 66)=V3 at hY hA5 ⊢;obtain⟨b0,b1,b2,b3,b4,b5,b6,b7,b8,b9,b10,b11⟩:=z7z hY;have HA5:=hd_ hA5;clear hY hA5;go_quiet (fail)
  go_wp2_with fail;go_ret2;exact⟨by rw[HN.out,HRO.out];rfl,z0p HA5.out _⟩
 | some r =>
  have HN:=hd_ (HAT.out.2 r rfl);have hY:=z0l w2 [.string r.path,.int .i64 r.num,.int .i64 r.chg,.int .i64 r.act,.int .i64 r.ty.base,.bool r.ty.k,.bool r.ty.l,.bool r.ty.x,.int .u64 r.sum,.int .i64 r.size,.string r.frm,.int .i64 r.fnum] 66;have hA5:Below w.heap.size w (w2.alloc (.cells #[.string r.path,.int .i64 r.num,.int .i64 r.chg,.int .i64 r.act,.int .i64 r.ty.base,.bool r.ty.k,.bool r.ty.l,.bool r.ty.x,.int .u64 r.sum,.int .i64 r.size,.string r.frm,.int .i64 r.fnum] 66)):=z0r Hb0.out (zcf HB2.out _);have hsu:zec (some r)=r:=rfl;go_upto_region 2 with fail;clear hsu HAT;generalize w2.alloc (.cells #[.string r.path,.int .i64 r.num,.int .i64 r.chg,.int .i64 r.act,.int .i64 r.ty.base,.bool r.ty.k,.bool r.ty.l,.bool r.ty.x,.int .u64 r.sum,.int .i64 r.size,.string r.frm,.int .i64 r.fnum] 66)=V3 at hY hA5 ⊢;generalize w2.heap.size=g6 at hY ⊢;have HY:=hd_ hY;have HA5:=hd_ hA5;obtain⟨b0,b1,b2,b3,b4,b5,b6,b7,b8,b9,b10,b11⟩:=z7z hY;have HGO:=hd_ (fun X=>zhw r X);clear hY hA5;refine wp_region_noPanic ?_;first
   | go_region_law (go_simp;go_at_call 96;refine (HGO.out _).mono ?_;rintro e w5 ⟨rfl,hX5⟩;have hS5:Below V3.heap.size V3 w5:=(Below.refl _ _).drew.trans hX5;obtain⟨k0,k1,k2,k3,k4,k5,k6,k7,k8,k9,k10,k11⟩:=z7z (HY.out.below hS5 HY.out.lt))
   | fail
  all_goals
   refine NoPanic.normal ?_;go_wp2_with fail;go_ret2;exact⟨by rw[HN.out,HRO.out];cases z2v r.act <;> rfl,z0r HA5.out hS5⟩
def zi6 (es:List Edt)(x:Edt):Nat:=es.countP fun y=>(decide (x.act=5) && decide (y.act=4) && decide (y.frm=x.path)) || (decide (x.act=4) && decide (y.act=5) && decide (y.path=x.frm))
def zi7 (es:List Edt)(x:Edt):Bool:=decide (zi6 es x=1) || (decide (x.act≠5) && decide (x.act≠4))
def zjv (w:World)(B:Nat)(v:Value)(l:List Syn):Prop:=w.ownsRow B 48 5 v l.length (l.flatMap Syn.cells)
def zjw (q:Int)(x:Syn):Syn:={ x with kind:=q }
theorem zjx (q:Int):∀(l:List Syn) (k:Nat) (hk:k<l.length),(l.set k (zjw q l[k])).flatMap Syn.cells=(l.flatMap Syn.cells).set (k * 5) (.int .i64 q)
 | [],k,hk=>absurd hk (by simp)
 | x :: r,0,_=>rfl
 | x :: r,k+1,hk=>by
  have ih:=zjx q r k (by simpa using hk)
  have e:(k+1) * 5=k * 5+5:=by omega
  rw[List.getElem_cons_succ,List.set_cons_succ,List.flatMap_cons,List.flatMap_cons,ih,e];rfl
theorem zjv.slice {w:World}{B:Nat}{v:Value}{l:List Syn}(h:zjv w B v l)(hk:0<l.length):∃ g c,v=.slice (some ⟨g,0,none⟩) l.length c∧B≤g∧g<w.heap.size:=by
 obtain⟨-,h2 | ⟨g,cap,cur,e1,h3,h4,-⟩⟩:=h
 ·omega
 ·exact⟨g,cap,e1,h3,(Array.getElem?_eq_some_iff.1 h4).1⟩
theorem zjv.cell {w:World}{B g c n:Nat}{l:List Syn}(h:zjv w B (.slice (some ⟨g,0,none⟩) n c) l){k:Nat}(hk:k<l.length):
  z50 w ⟨g,k * 5,none⟩ l[k]∧w.frozen? ⟨g,k * 5,none⟩=false:=by
 have hn:n=l.length:=by
  obtain⟨A,c',e⟩:=z0o h;injection e
 subst hn;have hat:∀ j u,j<5→l[k].cells[j]? = some u→(l.flatMap Syn.cells)[k * 5+j]? = some u:=by
  intro j u hj hu;rw[z44 Syn.cells 5 (fun _=>rfl) l k j hk hj];exact hu
 have h0:=zac h (j:=k * 5) (hat 0 _ (by omega) rfl)
 exact⟨⟨h0.1,(zac h (j:=k * 5+1) (hat 1 _ (by omega) rfl)).1,(zac h (j:=k * 5+2) (hat 2 _ (by omega) rfl)).1,(zac h (j:=k * 5+3) (hat 3 _ (by omega) rfl)).1,(zac h (j:=k * 5+4) (hat 4 _ (by omega) rfl)).1⟩,h0.2.1⟩
theorem zjv.put {w:World}{B g c n:Nat}{l:List Syn}(h:zjv w B (.slice (some ⟨g,0,none⟩) n c) l){k:Nat}(hk:k<l.length)(q:Int):
  zjv (w.setCell ⟨g,k * 5,none⟩ (.int .i64 q)) B (.slice (some ⟨g,0,none⟩) n c) (l.set k (zjw q l[k])):=by
 have hn:n=l.length:=by
  obtain⟨A,c',e⟩:=z0o h;injection e
 subst hn;unfold zjv;rw[List.length_set,zjx q l k hk];exact zab h _
end Go.Proofs.YtegeboijhifmcaaGreatDoor
