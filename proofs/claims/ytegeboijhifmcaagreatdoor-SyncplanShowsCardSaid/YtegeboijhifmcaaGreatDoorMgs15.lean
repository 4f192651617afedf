/- A part of the proof. -/
import Derived.Test.YtegeboijhifmcaaGreatDoorMgs10
import Derived.Test.YtegeboijhifmcaaGreatDoorMsAlF
import Derived.Test.YtegeboijhifmcaaGreatDoorMgs14
set_option linter.unusedVariables false
set_option linter.unusedSimpArgs false
set_option maxHeartbeats 8000000
set_option maxRecDepth 100000
namespace Go.Proofs.YtegeboijhifmcaaGreatDoor
open Go.Proofs.Tryz
open Go.RowKit
structure WiOk (p q:Pat):Prop where
 le:q.parts.length≤p.parts.length
 all:∀ k (h:k<q.parts.length),z9s (p.parts[k]'(Nat.lt_of_lt_of_le h le)) q.parts[k]=true
theorem zcj (p q:Pat)(A B:Option Addr)(a b:Nat)(w:World)(hp:za9 w (.slice A p.parts.length a) p)(hq:za9 w (.slice B q.parts.length b) q)(hw:WiOk p q):
  Calls prog 249 #[.agg #[.slice A p.parts.length a,.bool true],.agg #[.slice B q.parts.length b,.bool true]] w fun e w'=>e=.returned (.bool true)∧Below w.heap.size w w':=by
 have hA:Below w.heap.size w ((w.alloc (.cells #[.slice A p.parts.length a,.bool true] 97)).alloc (.cells #[.slice B q.parts.length b,.bool true] 97)):=((Below.refl _ _).alloc (Nat.le_refl _) _).alloc (by simp) _
 have h2:zbo ((w.alloc (.cells #[.slice A p.parts.length a,.bool true] 97)).alloc (.cells #[.slice B q.parts.length b,.bool true] 97)) w.heap.size (.slice A p.parts.length a) true:=(z0l w [.slice A p.parts.length a,.bool true] 97).alloc _;have h3:zbo ((w.alloc (.cells #[.slice A p.parts.length a,.bool true] 97)).alloc (.cells #[.slice B q.parts.length b,.bool true] 97)) (w.heap.size+1) (.slice B q.parts.length b) true:=by
  have:=z0l (w.alloc (.cells #[.slice A p.parts.length a,.bool true] 97)) [.slice B q.parts.length b,.bool true] 97;rw[World.size_alloc] at this;exact this
 have q1:decide (p.parts.length<q.parts.length)=false:=by have:=hw.le;simp;omega
 have hlq:q.parts.length≤9223372036854775807:=by
  obtain⟨A',c',e',hcc,hmm,-⟩:=id hq.1;injection e' with e1 e2 e3
  unfold maxLen at hmm;omega
 have HP:=hd_ hp;have HQ:=hd_ hq;have HW:=hd_ hw;clear hp hq hw;go_enter func249,ntmps249;go_upto_region 1 with fail;generalize (w.alloc (.cells #[.slice A p.parts.length a,.bool true] 97)).alloc (.cells #[.slice B q.parts.length b,.bool true] 97)=W1 at hA h2 h3 ⊢;have x0:=h2.c0;have x1:=h2.c1;have y0:=h3.c0;have y1:=h3.c1;have H:=hd_ (And.intro hA (And.intro h2 h3));clear hA h2 h3;go_quiet (fail)
 go_wp2_with fail;go_loopw [50] (fun i wr=>∃ k:Nat,i=.int .i64 k∧k≤q.parts.length∧Hid (Below W1.heap.size W1 wr)) (fun i _=>q.parts.length - (intOf i).toNat)
 case atStart=>exact⟨0,rfl,Nat.zero_le _,hd_ (zqq _ _)⟩
 case round =>
  obtain⟨k,rfl,hk,HI⟩:=hrel;clear x0 x1 y0 y1;by_cases hlt:k<q.parts.length
  ·have hlp:k<p.parts.length:=Nat.lt_of_lt_of_le hlt HW.out.le;obtain⟨ad,rfl,hab,s0⟩:=Strs.at_ (HQ.out.below (z0r H.out.1 HI.out)).1 hlt;obtain⟨ae,rfl,hae,r0⟩:=Strs.at_ (HP.out.below (z0r H.out.1 HI.out)).1 hlp;have x0:=(H.out.2.1.low HI.out).c0;have HC:=hd_ (fun X=>z9u p.parts[k] q.parts[k] X (HP.out.2 _ (List.getElem_mem _)) (HQ.out.2 _ (List.getElem_mem _)));rw[HW.out.all k hlt] at HC;generalize p.parts[k]=s at r0 HC;generalize q.parts[k]=t at s0 HC;have HLT:=hd_ hlt;have hz:(k:Int)<(p.parts.length:Int):=by omega
   clear hab hae;go_wp2_with fail;refine (HC.out _).mono ?_;rintro e w3 ⟨rfl,hb3⟩;have HB:=hd_ (z0r HI.out hb3);clear hb3 x0 s0 r0;go_wp2_with fail;go_roundw
   case rel=>exact⟨k+1,by go_num,by omega,HB⟩
   case measure=>simp [intOf];omega
  ·have hke:k=q.parts.length:=by omega
   subst hke;have HB:=hd_ (z0r H.out.1 HI.out);have hge:¬((q.parts.length:Int)<(q.parts.length:Int)):=by omega
   go_wp2_with fail;go_ret;exact⟨rfl,HB.out⟩
theorem zck (p q:Pat)(A B:Option Addr)(a b:Nat)(w:World)(hp:za9 w (.slice A p.parts.length a) p)(hq:za9 w (.slice B q.parts.length b) q)(hpr:p.rest=true)(hqr:q.rest=true)(hpe:z7e p=0)(hqe:z7e q=0)(hw:WiOk p q):
  Calls prog 227 #[.agg #[.slice A p.parts.length a,.bool true],.agg #[.slice B q.parts.length b,.bool true]] w fun e w'=>e=.returned (.bool true)∧Below w.heap.size w w':=by
 have hA:Below w.heap.size w ((w.alloc (.cells #[.slice A p.parts.length a,.bool true] 97)).alloc (.cells #[.slice B q.parts.length b,.bool true] 97)):=((Below.refl _ _).alloc (Nat.le_refl _) _).alloc (by simp) _
 have h2:zbo ((w.alloc (.cells #[.slice A p.parts.length a,.bool true] 97)).alloc (.cells #[.slice B q.parts.length b,.bool true] 97)) w.heap.size (.slice A p.parts.length a) true:=(z0l w [.slice A p.parts.length a,.bool true] 97).alloc _;have h3:zbo ((w.alloc (.cells #[.slice A p.parts.length a,.bool true] 97)).alloc (.cells #[.slice B q.parts.length b,.bool true] 97)) (w.heap.size+1) (.slice B q.parts.length b) true:=by
  have:=z0l (w.alloc (.cells #[.slice A p.parts.length a,.bool true] 97)) [.slice B q.parts.length b,.bool true] 97;rw[World.size_alloc] at this;exact this
 have HCP:=hd_ (fun X (hX:Below w.heap.size w X)=>za0 p A a X (hp.below hX).1 hp.small);have HCQ:=hd_ (fun X (hX:Below w.heap.size w X)=>za0 q B b X (hq.below hX).1 hq.small);rw[hpe,hpr] at HCP;rw[hqe,hqr] at HCQ;have HIN:=hd_ (fun X (hX:Below w.heap.size w X)=>zcj p q A B a b X (hp.below hX) (hq.below hX) hw);clear hp hq hw hpe hqe hpr hqr;go_enter func227,ntmps227;go_upto_region 1 with fail;generalize (w.alloc (.cells #[.slice A p.parts.length a,.bool true] 97)).alloc (.cells #[.slice B q.parts.length b,.bool true] 97)=W1 at hA h2 h3 ⊢;have x0:=h2.c0;have x1:=h2.c1;have H:=hd_ (And.intro hA (And.intro h2 h3));have HC1:=hd_ (HCP.out W1 hA);clear hA h2 h3;go_wp2_with fail;refine HC1.out.mono ?_;rintro e w2 ⟨rfl,hb⟩;have HB:=hd_ (z0r H.out.1 hb);have HG:=hd_ (And.intro (H.out.2.1.low hb) (H.out.2.2.low hb));have y0:=HG.out.2.c0;have y1:=HG.out.2.c1;have HC2:=hd_ (HCQ.out w2 HB.out);clear hb x0 x1;go_wp2_with fail;refine HC2.out.mono ?_;rintro e w3 ⟨rfl,hb⟩;have HB3:=hd_ (z0r HB.out hb);have x0:=(HG.out.1.low hb).c0;have x1:=(HG.out.1.low hb).c1;have z0:=(HG.out.2.low hb).c0;have z1:=(HG.out.2.low hb).c1;have HC3:=hd_ (HIN.out w3 HB3.out);clear hb y0 y1;go_wp2_with fail;refine HC3.out.mono ?_;rintro e w4 ⟨rfl,hb⟩;have HB4:=hd_ (z0r HB3.out hb);clear hb x0 x1 z0 z1;go_wp2_with fail;go_ret;exact⟨rfl,HB4.out⟩
theorem zcl (l:List ByteArray)(A:Option Addr)(c:Nat)(w:World)(hS:Strs w (.slice A l.length c) l)(hz:∀ x∈l,x.size≤maxLen)(hf:∀ x∈l,z7b x≠0):
  Calls prog 229 #[.agg #[.slice A l.length c,.bool true],.bool true] w fun e w'=>e=.returned (.bool true)∧Below w.heap.size w w':=by
 have hB:=z0l w [.slice A l.length c,.bool true] 282;have hA:Below w.heap.size w (w.alloc (.cells #[.slice A l.length c,.bool true] 282)):=(Below.refl _ _).alloc (Nat.le_refl _) _;obtain⟨A',c',e',hcc,hmm,-⟩:=id hS;injection e' with e1 e2 e3
 subst e1 e3;have HS:=hd_ hS;have HF:=hd_ (fun x (hx:x∈l) X=>z7l x X (hz x hx));have HN:=hd_ hf;clear hS hz hf;unfold maxLen at hmm;go_enter func229,ntmps229;go_upto_region 1 with fail;generalize w.alloc (.cells #[.slice A l.length c,.bool true] 282)=W1 at hB hA ⊢;have d0:W1.cell? ⟨w.heap.size,0,none⟩=some (.slice A l.length c):=hB.cell 0;have d1:W1.cell? ⟨w.heap.size,1,none⟩=some (.bool true):=hB.cell 1;have HA:=hd_ hA;clear hB hA;by_cases h0:l.length=0
 all_goals
  have q0:((l.length:Int) == 0)=decide (l.length=0):=by rw[Bool.eq_iff_iff,beq_iff_eq,decide_eq_true_eq];omega
  first
   | rw[decide_eq_true h0] at q0
   | rw[decide_eq_false h0] at q0
  have H0:=hd_ h0;clear h0;go_wp2_with fail;go_loopw [33] (fun i wr=>∃ k:Nat,i=.int .i64 k∧k≤l.length∧Hid (Below W1.heap.size W1 wr)) (fun i _=>l.length - (intOf i).toNat)
  case atStart=>exact⟨0,rfl,Nat.zero_le _,hd_ (Below.refl _ _)⟩
  case round =>
   obtain⟨k,rfl,hk,HI⟩:=hrel;clear d0 d1;by_cases hlt:k<l.length
   ·obtain⟨ad,rfl,hab,s0⟩:=Strs.at_ (HS.out.below (z0r HA.out HI.out)) hlt;have HC:=hd_ (HF.out l[k] (List.getElem_mem _));have hn:=HN.out l[k] (List.getElem_mem _);generalize l[k]=s at s0 HC hn;have qn:(z7b s == 0)=false:=by simpa using hn
    have HLT:=hd_ hlt;clear hab hn;generalize z7b s=fi at HC qn;go_wp2_with (go_at_call 161;refine (HC.out _).mono ?_;rintro e w' ⟨rfl,rfl⟩)
    go_roundw
    case rel=>exact⟨k+1,by go_num,by omega,HI⟩
    case measure=>simp [intOf];omega
   ·have hke:k=l.length:=by omega
    subst hke;have HB:=hd_ (z0r HA.out HI.out);have hge:¬((l.length:Int)<(l.length:Int)):=by omega
    go_wp2_with fail;go_ret;exact⟨rfl,HB.out⟩
structure zcm (p:Pat):Prop where
 rest:p.rest=true
 pat:z7e p=0
 star:∀ x∈p.parts,z79 x=false
theorem Row.capTo {w:World}{size n c:Nat}{A:Option Addr}{xs:List Value}(h:Row w size (.slice A n c) n xs):Row w size (.slice A n n) n xs:=by
 obtain⟨A',c',e,hc,hm,hl,h0,hx⟩:=h;injection e with e1 e2 e3
 subst e1 e3;exact⟨A,n,rfl,Nat.le_refl _,by omega,hl,fun e=>by have:=h0 e;omega,hx⟩
theorem zcn {P:Program}{w:World}{t e:TypeId}{size n c lo:Nat}{A:Option Addr}{xs:List Value}(ht:P.underlying t=some (.slice e))(hs:∀ w,(sizeOf e).run P w=.ok size w)
  (h:Row w size (.slice A n c) n xs) (h1:lo≤n):
  ∃ A',(∀ X,(Instr.sliceAt t (.slice A n c) (some (.int .i64 lo)) (some (.int .i64 n)) (some (.int .i64 n))).run P X=.ok (.slice A' (n - lo) (n - lo)) X)∧Row w size (.slice A' (n - lo) (n - lo)) (n - lo) (xs.drop (lo * size)):=by
 have he:P.elem t=e:=by simp [Program.elem,ht]
 have hc:n≤c:=by obtain⟨A',c',e,hc,-⟩:=id h;injection e with e1 e2 e3;omega
 have hr:=Row.slice (Row.capTo h) h1 (Nat.le_refl _);rw[List.take_of_length_le (by rw[List.length_drop,h.len,← Nat.sub_mul];exact Nat.le_refl _)] at hr
 refine⟨_,fun X=>?_,hr⟩;have ht':P.underlying t=some (.slice (P.elem t)):=by rw[he];exact ht
 rw[run_sliceAt_slice X t _ _ _ _ ht',run_slice_lhm X t A n c ht' _ _ _ _ _ _ (by omega) (by omega) (by omega) (by omega),he,hs]
 simp [Result.andThen,sliced]
theorem zco:z0e prog 257 282 2 32:=z0f underlying257 (z:=.agg #[.slice none 0 0,.bool false]) (by kernel_rfl) rfl (by decide)
def zcp (w:World)(p q:Pat)(e:Ending)(w':World):Prop:=Below w.heap.size w w'∧∃ B1 c1 A c,e=.returned (.tuple #[.slice (some B1) 1 c1,.bool true])∧Row w' 2 (.slice (some B1) 1 c1) 1 [.slice A (q.parts.length - p.parts.length) c,.bool true]∧Strs w' (.slice A (q.parts.length - p.parts.length) c) (q.parts.drop p.parts.length)
theorem zcq (p q:Pat)(A B:Option Addr)(a b:Nat)(w:World)(hp:za9 w (.slice A p.parts.length a) p)(hq:za9 w (.slice B q.parts.length b) q)(hn:zcm p)(hqr:q.rest=true)(hqe:z7e q=0)(hw:WiOk q p):
  Calls prog 189 #[.agg #[.slice A p.parts.length a,.bool true],.agg #[.slice B q.parts.length b,.bool true]] w (zcp w p q):=by
 have hA:Below w.heap.size w ((w.alloc (.cells #[.slice A p.parts.length a,.bool true] 97)).alloc (.cells #[.slice B q.parts.length b,.bool true] 97)):=((Below.refl _ _).alloc (Nat.le_refl _) _).alloc (by simp) _
 have h2:zbo ((w.alloc (.cells #[.slice A p.parts.length a,.bool true] 97)).alloc (.cells #[.slice B q.parts.length b,.bool true] 97)) w.heap.size (.slice A p.parts.length a) true:=(z0l w [.slice A p.parts.length a,.bool true] 97).alloc _;have h3:zbo ((w.alloc (.cells #[.slice A p.parts.length a,.bool true] 97)).alloc (.cells #[.slice B q.parts.length b,.bool true] 97)) (w.heap.size+1) (.slice B q.parts.length b) true:=by
  have:=z0l (w.alloc (.cells #[.slice A p.parts.length a,.bool true] 97)) [.slice B q.parts.length b,.bool true] 97;rw[World.size_alloc] at this;exact this
 have HWI:=hd_ (fun X (hX:Below w.heap.size w X)=>zck q p B A b a X (hq.below hX) (hp.below hX) hqr hn.rest hqe hn.pat hw);have HCL:=hd_ (fun X (hX:Below w.heap.size w X)=>zap q.parts _ X (hq.below hX).1 (by have:=zao hqe;omega))
 have hlq:=zao hqe;have hle:=hw.le;have HP:=hd_ hp;have HST:=hd_ hn.star;clear hp hq hw hn hqe hqr;go_enter func189,ntmps189;go_upto_region 1 with fail;generalize (w.alloc (.cells #[.slice A p.parts.length a,.bool true] 97)).alloc (.cells #[.slice B q.parts.length b,.bool true] 97)=W1 at hA h2 h3 ⊢;have x0:=h2.c0;have x1:=h2.c1;have y0:=h3.c0;have y1:=h3.c1;have H:=hd_ (And.intro hA (And.intro h2 h3));have HC1:=hd_ (HWI.out W1 hA);clear hA h2 h3 HWI;go_wp2_with fail;refine HC1.out.mono ?_;rintro e w2 ⟨rfl,hb⟩;have HB:=hd_ (z0r H.out.1 hb);have HG:=hd_ (And.intro (H.out.2.1.low hb) (H.out.2.2.low hb));clear hb x0 x1 y0 y1 H HC1;have y0:=HG.out.2.c0;have HC2:=hd_ (HCL.out w2 HB.out);clear HCL;go_wp2_with fail;refine HC2.out.mono ?_;rintro e w3 ⟨v',rfl,hown,hb⟩;have HB3:=hd_ (z0r HB.out hb);have HG:=hd_ (And.intro (HG.out.1.low hb) (HG.out.2.low hb));have hlow:w.heap.size≤w2.heap.size:=HB.out.size;have HO:=hd_ hown;obtain⟨Av,cv,rfl⟩:=z0o hown;obtain⟨A',hcut,hrow⟩:=zcn (P:=prog) (t:=29) underlying29 zby (Row.of_own hown) hle;rw[Nat.mul_one] at hrow;have HR:=hd_ hrow;clear hb y0 hown hrow HC2;have x0:=HG.out.1.c0;go_wp2_with fail;go_loopw [7,21] (fun bv i wr=>∃ k:Nat,bv=.slice none 0 0∧i=.int .i64 k∧k≤p.parts.length∧Hid (Below w3.heap.size w3 wr)) (fun _ i _=>p.parts.length - (intOf i).toNat)
 case atStart=>exact⟨0,rfl,rfl,Nat.zero_le _,hd_ (Below.refl _ _)⟩
 case round =>
  obtain⟨k,rfl,rfl,hk,HI⟩:=hrel;clear x0;by_cases hlt:k<p.parts.length
  ·obtain⟨ad,rfl,hab,s0⟩:=Strs.at_ (HP.out.below (z0r HB3.out HI.out)).1 hlt;have HC:=hd_ (fun X=>z7k p.parts[k] X);rw[HST.out _ (List.getElem_mem _)] at HC;generalize p.parts[k]=s at s0 HC;have HLT:=hd_ hlt;clear hab;go_wp2_with (go_at_call 110;refine (HC.out _).mono ?_;rintro e w' ⟨rfl,rfl⟩)
   go_roundw
   case rel=>exact⟨k+1,rfl,by go_num,by omega,HI⟩
   case measure=>simp [intOf];omega
  ·have hke:k=p.parts.length:=by omega
   subst hke;have HG4:=hd_ (And.intro (HG.out.1.low HI.out) (HG.out.2.low HI.out));have HB4:=hd_ (z0r HB3.out HI.out);have HR4:=hd_ (Row.below HR.out HI.out);have hge:¬((p.parts.length:Int)<(p.parts.length:Int)):=by omega
   have x0:=HG4.out.1.c0;have x1:=HG4.out.1.c1;have y1:=HG4.out.2.c1;clear HG HB3 HO HR HB;go_upto_region 14 with fail;refine wp_region_noPanic ?_;go_region_law (refine zce rfl rfl zco (World.ownsRow_nil _ wr.heap.size _ _) (by simp [Act.eval,Act.put]) (Row.drewN (z0i wr [.slice A' (q.parts.length - p.parts.length) (q.parts.length - p.parts.length),.bool true] _ 2 1 rfl (by decide) _ rfl) 1) (by simp [Act.eval,Act.put]) (by simp [Value.oneCell']) (by decide) (by decide) (by simp) ?_;intro A6 c6 w6 hO6 hG6 hw6)
   all_goals
    refine NoPanic.normal ?_;have HO6:=hd_ hO6;have HG6:=hd_ hG6;clear hO6 hG6 hw6;have hk:=‹∀(a:Act) (w:World),Code.wp _ _ _ a w→_›;refine hk _ _ ?_;clear hk;go_wp2_with fail;go_ret2;have hb6:Below wr.heap.size wr w6:=(((Below.refl _ _).alloc (Nat.le_refl _) _).drew).grown HG6.out (by simp) (fun k e=>by cases e)
    have hR6:=Row.of_own HO6.out;obtain⟨A9,c9,e9,-,-,-,-,hx9⟩:=id hR6;obtain⟨ad9,rfl,-⟩:=hx9 (by omega)
    injection e9 with e9 _ e10
    subst e9 e10;exact⟨z0r HB4.out hb6,ad9,_,A',_,rfl,hR6,by
     show Row w6 1 _ (List.drop p.parts.length q.parts).length _
     rw[List.length_drop,List.map_drop];exact Row.below HR4.out hb6⟩
def zcr (w:World)(p:Pat)(l:List ByteArray)(e:Ending)(w':World):Prop:=Below w.heap.size w w'∧∃ A' c',e=.returned (.tuple #[.agg #[.slice A' (p.parts.length+l.length) c',.bool true],.int .i64 0])∧(∀ x,(Value.slice A' (p.parts.length+l.length) c').ownBlock=some x→w.heap.size≤x)∧Strs w' (.slice A' (p.parts.length+l.length) c') (p.parts++l)
structure zcs (w wr:World)(g4 g11:Nat)(v:Value)(b:Bool)(l:List ByteArray):Prop where
 low:Below w.heap.size w wr
 le4:w.heap.size≤g4
 le:g4<g11
 box4:zbo wr g4 (.slice none 0 0) false
 box:zbo wr g11 v b
 own:wr.ownsRow w.heap.size 9 1 v l.length (l.map .string)
 ne4:v.ownBlock≠some g4
 ne:v.ownBlock≠some g11
theorem zcs.under {w wr wx:World}{g4 g11:Nat}{v:Value}{b:Bool}{l:List ByteArray}(h:zcs w wr g4 g11 v b l)(hb:Below wr.heap.size wr wx):zcs w wx g4 g11 v b l:=⟨z0r h.low hb,h.le4,h.le,h.box4.low hb,h.box.low hb,z0n h.own hb,h.ne4,h.ne⟩
theorem zcs.app {w wr w2:World}{g4 g11:Nat}{v:Value}{b:Bool}{l m:List ByteArray}{A':Option Addr}{c' n:Nat}(h:zcs w wr g4 g11 v b l)(hn:n=l.length+m.length)
  (hown:w2.ownsRow w.heap.size 9 1 (.slice A' n c') n (l.map .string++m.map .string)) (hgr:wr.grownBy w2 v.ownBlock)
  (hob:(Value.slice A' n c').ownBlock=v.ownBlock∨(Value.slice A' n c').ownBlock=some wr.heap.size):
  zcs w (w2.setCell ⟨g11,0,none⟩ (.slice A' n c')) g4 g11 (.slice A' n c') b (l++m):=by
 have l4:=Blk.lt h.box4;have l11:=Blk.lt h.box;have n4:(Value.slice A' n c').ownBlock≠some g4:=by
  rcases hob with e | e
  ·rw[e];exact h.ne4
  ·rw[e];intro e2;injection e2 with e2;omega
 have n11:(Value.slice A' n c').ownBlock≠some g11:=by
  rcases hob with e | e
  ·rw[e];exact h.ne
  ·rw[e];intro e2;injection e2 with e2;omega
 have hlt:=h.le;have hl4:=h.le4;refine⟨(h.low.grown hgr h.low.size (fun k e=>(h.own.lt k e).1)).setCell (p:=⟨g11,0,none⟩) (by show w.heap.size≤g11;omega) _,h.le4,h.le,Blk.far (Blk.grown h.box4 hgr (fun e=>h.ne4 e.symm)) (by show g11≠g4;omega) _,(Blk.grown h.box hgr (fun e=>h.ne e.symm)).set_ 0 _,?_,n4,n11⟩
 have hl:(l++m).length=n:=by rw[List.length_append,hn]
 rw[hl,List.map_append];exact z4r hown (p:=⟨g11,0,none⟩) n11 _
theorem zct {p:Pat}(h:zcm p):za2 p=0:=by
 unfold za2;rw[List.filter_eq_nil_iff.2]
 ·rfl
 ·intro x hx;rw[h.star x hx];decide
theorem zcu (p:Pat)(l:List ByteArray)(A:Option Addr)(a:Nat)(B1:Addr)(c1:Nat)(C:Option Addr)(m c:Nat)(w:World)(hp:za9 w (.slice A p.parts.length a) p)(hn:zcm p)
  (hb:Row w 2 (.slice (some B1) 1 c1) 1 [.slice C m c,.bool true]) (hl:Strs w (.slice C m c) l) (hz:∀ x∈l,x.size≤1000000) (hf:∀ x∈l,z7b x≠0) (hle:p.parts.length+l.length≤12):
  Calls prog 190 #[.agg #[.slice A p.parts.length a,.bool true],.slice (some B1) 1 c1] w (zcr w p l):=by
 have hml:m=l.length:=by obtain⟨A',c',e,-⟩:=id hl;injection e
 subst hml;have hcells:w.cell? B1=some (.slice C l.length c)∧w.cell? ⟨B1.block,B1.off+1,none⟩=some (.bool true)∧B1.block<w.heap.size:=by
  obtain⟨A',c',e,-,-,-,-,hx⟩:=id hb;injection e with e1 e2 e3
  obtain⟨ad,e4,hb4,hc4⟩:=hx (by omega)
  rw[← e1] at e4;injection e4 with e4
  subst e4;have h0:=hc4 0 _ rfl;have h1:=hc4 1 _ rfl;unfold Addr.add at h0 h1;exact⟨by simpa using h0,by simpa using h1,hb4⟩
 have hcap:1≤c1:=by
  obtain⟨A',c',e,h1,-⟩:=id hb;injection e with e1 e2 e3
  omega
 have hA:Below w.heap.size w ((w.alloc (.cells #[.slice A p.parts.length a,.bool true] 97)).alloc (.cells #[.slice none 0 0,.bool false] 97)):=((Below.refl _ _).alloc (Nat.le_refl _) _).alloc (by simp) _
 have h2:zbo ((w.alloc (.cells #[.slice A p.parts.length a,.bool true] 97)).alloc (.cells #[.slice none 0 0,.bool false] 97)) w.heap.size (.slice A p.parts.length a) true:=(z0l w [.slice A p.parts.length a,.bool true] 97).alloc _;have h3:zbo ((w.alloc (.cells #[.slice A p.parts.length a,.bool true] 97)).alloc (.cells #[.slice none 0 0,.bool false] 97)) (w.heap.size+1) (.slice none 0 0) false:=by
  have:=z0l (w.alloc (.cells #[.slice A p.parts.length a,.bool true] 97)) [.slice none 0 0,.bool false] 97;rw[World.size_alloc] at this;exact this
 have HKI:Hid (∀ X,Below w.heap.size w X→Calls prog 124 #[.agg #[.slice A p.parts.length a,.bool true]] X (za6 X p)):=hd_ (fun X hX=>by have:=za7 p A a X (hp.below hX).1 hp.small;rw[hn.rest] at this;exact this)
 have HCL:=hd_ (fun X (hX:Below w.heap.size w X)=>zap p.parts _ X (hp.below hX).1 (by omega))
 have HIB:=hd_ (fun X (hX:Below w.heap.size w X)=>zcl l C c X (hl.below hX) (fun x hx=>by have:=hz x hx;unfold maxLen;omega) hf)
 have HP:=hd_ hp;have HN:=hd_ hn;have HL:=hd_ hl;have HCE:=hd_ hcells;have HNS:=hd_ (zct hn);have HLE:=hd_ hle;clear hp hn hl hcells hz hf hb;go_enter func190,ntmps190;go_upto_region 1 with fail;generalize (w.alloc (.cells #[.slice A p.parts.length a,.bool true] 97)).alloc (.cells #[.slice none 0 0,.bool false] 97)=W1 at hA h2 h3 ⊢;have x0:=h2.c0;have x1:=h2.c1;have H:=hd_ (And.intro hA (And.intro h2 h3));have HC1:=hd_ (HKI.out W1 hA);clear hA h2 h3 HKI;go_wp2_with fail;refine HC1.out.mono ?_;rintro e w2 ⟨n,b',rfl,hk,hb⟩;obtain⟨rfl,hb'⟩:=hk HN.out.pat;rw[HN.out.rest] at hb';subst hb';rw[HNS.out];have hpe:z7e p=0:=HN.out.pat;rw[hpe];have HB:=hd_ (z0r H.out.1 hb);have HG:=hd_ (And.intro (H.out.2.1.low hb) (H.out.2.2.low hb));clear hb x0 x1 hk hpe HC1 H;go_wp2_with fail;go_loopw [45] (fun i wr=>∃ k:Nat,i=.int .i64 k∧k≤1∧Hid (Below w2.heap.size w2 wr)) (fun i _=>1 - (intOf i).toNat)
 case atStart=>exact⟨0,rfl,Nat.zero_le _,hd_ (Below.refl _ _)⟩
 case round =>
  obtain⟨k,rfl,hk,HI⟩:=hrel;by_cases hlt:k<1
  ·have hk0:(k:Int)=0:=by omega
   have q0:((k:Int) == 0)=true:=by rw[hk0];rfl
   have HK0:=hd_ hk0;have hadd:B1.add (k * 2)=B1:=by
    have:k=0:=by omega
    subst this;unfold Addr.add;simp
   have s0:wr.cell? (B1.add (k * 2))=some (.slice C l.length c):=by rw[hadd];exact ((HB.out.trans (HI.out.mono HB.out.size)).cell HCE.out.2.2).trans HCE.out.1
   have s1:wr.cell? ⟨(B1.add (k * 2)).block,(B1.add (k * 2)).off+1,none⟩=some (.bool true):=by rw[hadd];exact ((HB.out.trans (HI.out.mono HB.out.size)).cell (p:=⟨B1.block,B1.off+1,none⟩) HCE.out.2.2).trans HCE.out.2.1
   clear hk0 hadd;have hX:Below w2.heap.size w2 (wr.alloc (.cells #[.slice C l.length c,.bool true] 282)):=HI.out.alloc HI.out.size _;have HCQ:=hd_ (HIB.out _ (z0r HB.out hX));have HX:=hd_ hX;clear hX;go_wp2_with fail;refine HCQ.out.mono ?_;rintro e w4 ⟨rfl,hb⟩;have HB4:=hd_ (z0r HX.out hb);clear hb s0 s1;go_wp2_with fail;go_roundw
   case rel=>exact⟨k+1,by go_num,by omega,HB4⟩
   case measure=>simp [intOf];omega
  ·have hk1:k=1:=by omega
   subst hk1;have HB3:=hd_ (z0r HB.out HI.out);have HG3:=hd_ (And.intro (HG.out.1.low HI.out) (HG.out.2.low HI.out));have HC3:=hd_ (HCL.out wr HB3.out);have x0:=HG3.out.1.c0;clear HCL HIB HG HI HB;go_wp2_with fail;refine HC3.out.mono ?_;rintro e w4 ⟨v',rfl,hown,hb⟩;obtain⟨Av,cv,rfl⟩:=z0o hown;have HB4:=hd_ (z0r HB3.out hb);have hg4:=HG3.out.2.low hb;have hsz4:=hb.size;have hw4:=HB3.out.size;have hlt4:=Blk.lt HG3.out.2;have HS:Hid (zcs w (w4.alloc (.cells #[.slice Av p.parts.length cv,.bool false] 97)) (w.heap.size+1) w4.heap.size (.slice Av p.parts.length cv) false p.parts):=hd_ (by
    have hba:Below w4.heap.size w4 (w4.alloc (.cells #[.slice Av p.parts.length cv,.bool false] 97)):=(Below.refl _ _).alloc (Nat.le_refl _) _;refine⟨z0r HB4.out hba,by omega,by have:=Blk.lt hg4;omega,hg4.low hba,z0l w4 _ _,z4p (z0n hown hba) hw4,fun e=>?_,fun e=>?_⟩
    ·have:=(hown.lt _ e).1;omega
    ·have:=(hown.lt _ e).2;omega)
   have HB5:=hd_ hb;clear hb hown hg4 x0 HC3;have y0:=HS.out.box.c0;go_upto_region 13 with fail;generalize w4.alloc (.cells #[.slice Av p.parts.length cv,.bool false] 97)=W5 at HS y0 ⊢;generalize w4.heap.size=g11 at HS y0 ⊢;clear hsz4 hw4 hlt4;go_wp2_with fail;go_loopw [1,65] (fun lv i wr=>∃ j:Nat,lv=.slice (some B1) 1 c1∧i=.int .i64 j∧j≤p.parts.length∧Hid (Below W5.heap.size W5 wr)) (fun _ i _=>p.parts.length - (intOf i).toNat)
   case atStart=>exact⟨0,rfl,rfl,Nat.zero_le _,hd_ (Below.refl _ _)⟩
   case round =>
    obtain⟨j,rfl,rfl,hj,HJ⟩:=hrel;clear y0;have HSJ:=hd_ (HS.out.under HJ.out);by_cases hlt2:j<p.parts.length
    ·have hrow:Strs wr (.slice Av p.parts.length cv) p.parts:=Row.of_own HSJ.out.own;obtain⟨ad,rfl,hab,s0⟩:=Strs.at_ hrow hlt2;have HT:=hd_ (fun X=>z7k p.parts[j] X);rw[HN.out.star _ (List.getElem_mem _)] at HT;generalize p.parts[j]=s at s0 HT;have HLT:=hd_ hlt2;clear hab hrow;go_wp2_with (go_at_call 110;refine (HT.out _).mono ?_;rintro e w' ⟨rfl,rfl⟩)
     go_roundw
     case rel=>exact⟨j+1,rfl,by go_num,by omega,HJ⟩
     case measure=>simp [intOf];omega
    ·have hje:j=p.parts.length:=by omega
     subst hje;have hge:¬((p.parts.length:Int)<(p.parts.length:Int)):=by omega
     have y0:=HSJ.out.box.c0;have b0:wr.cell? B1=some (.slice C l.length c):=(HSJ.out.low.cell HCE.out.2.2).trans HCE.out.1;have b1:wr.cell? ⟨B1.block,B1.off+1,none⟩=some (.bool true):=(HSJ.out.low.cell (p:=⟨B1.block,B1.off+1,none⟩) HCE.out.2.2).trans HCE.out.2.1;have q12:decide ((12:Int)<(p.parts.length:Int)+(l.length:Int))=false:=by have:=HLE.out;simp;omega
     have q13:decide (12<p.parts.length+l.length)=false:=by have:=HLE.out;simp;omega
     go_upto_region 20 with fail;go_quiet (fail)
     go_upto_region 22 with fail;have HSQ:=hd_ (HSJ.out.under (zqq wr nq));generalize wr.drewN nq=W9 at HSQ ⊢;clear y0 b0 b1;have y0:=HSQ.out.box.c0;have b0:W9.cell? B1=some (.slice C l.length c):=(HSQ.out.low.cell HCE.out.2.2).trans HCE.out.1;have b1:W9.cell? ⟨B1.block,B1.off+1,none⟩=some (.bool true):=(HSQ.out.low.cell (p:=⟨B1.block,B1.off+1,none⟩) HCE.out.2.2).trans HCE.out.2.1;have h1:∀ u∈l.map Value.string,u.oneCell'=true:=fun u hu=>by
      obtain⟨b,-,rfl⟩:=List.mem_map.1 hu;rfl
     have H1:=hd_ h1;have hl12:p.parts.length+l.length≤12:=HLE.out;have HHS:Hid (w.heap.size≤W9.drew.heap.size):=hd_ HSQ.out.low.drew.size;clear h1;refine wp_region_noPanic ?_;go_region_law (refine zce rfl rfl z87 (z0n HSQ.out.own ((Below.refl _ _).drew)) (by simp [Act.eval,Act.put]) (HL.out.below HSQ.out.low.drew) (by simp [Act.eval,Act.put]) H1.out (by omega) (by unfold maxLen;omega) HHS.out ?_;intro A6 c6 w6 hO6 hG6 hw6;have hbx:=Blk.grown (HSQ.out.under ((Below.refl _ _).drew)).box hG6 (fun e=>HSQ.out.ne e.symm);have g0:w6.frozen? ⟨g11,0,none⟩=false:=zbo.f0 hbx;have z0:w6.cell? ⟨g11,0,none⟩=some (.slice Av p.parts.length cv):=zbo.c0 hbx)
     all_goals
      refine NoPanic.normal ?_;have HP6:=hd_ ((HSQ.out.under ((Below.refl _ _).drew)).app rfl hO6 hG6 hw6);clear hO6 hG6 hw6 hbx g0 z0 y0 b0 b1;generalize w6.setCell ⟨g11,0,none⟩ (.slice A6 (p.parts.length+l.length) c6)=W7 at HP6 ⊢;have hk:=‹∀(a:Act) (w:World),Code.wp _ _ _ a w→_›;refine hk _ _ ?_;clear hk;have b1:W7.cell? ⟨B1.block,B1.off+1,none⟩=some (.bool true):=(HP6.out.low.cell (p:=⟨B1.block,B1.off+1,none⟩) HCE.out.2.2).trans HCE.out.2.1;have y0:=HP6.out.box.c0;have y1:=HP6.out.box.c1;have f1:=HP6.out.box.f1;obtain⟨u0,u1,u2,u3⟩:=HP6.out.box4.all;have hne:¬(w.heap.size+1=g11):=by have:=HP6.out.le;omega
      have hne2:¬(g11=w.heap.size+1):=by have:=HP6.out.le;omega
      go_wp2_with fail;have hE:=zbo.put (show zbo (W7.setCell ⟨g11,1,none⟩ (.bool true)) (w.heap.size+1) (.slice none 0 0) false from Blk.far HP6.out.box4 (p:=⟨g11,1,none⟩) hne2 (.bool true)) (.slice A6 (p.parts.length+l.length) c6) true;have hb:=zbp (HP6.out.low.setCell (p:=⟨g11,1,none⟩) (by show w.heap.size≤g11;have:=HP6.out.le;have:=HP6.out.le4;omega) (.bool true)) (g:=w.heap.size+1) (by omega) (.slice A6 (p.parts.length+l.length) c6) (.bool true)
      have hO:=Row.of_own (z4r (z4r (z4r HP6.out.own (p:=⟨g11,1,none⟩) HP6.out.ne (.bool true)) (p:=⟨w.heap.size+1,0,none⟩) HP6.out.ne4 (.slice A6 (p.parts.length+l.length) c6)) (p:=⟨w.heap.size+1,1,none⟩) HP6.out.ne4 (.bool true));generalize ((W7.setCell ⟨g11,1,none⟩ (.bool true)).setCell ⟨w.heap.size+1,0,none⟩ (.slice A6 (p.parts.length+l.length) c6)).setCell ⟨w.heap.size+1,1,none⟩ (.bool true)=W8 at hE hb hO ⊢;obtain⟨-,-,c0,c1⟩:=hE.all;refine bodyPost_ret (v:=.tuple #[.agg #[.slice A6 (p.parts.length+l.length) c6,.bool true],.int .i64 0]) (by simp [results,results190,go_sem,c0,c1]) rfl ⟨hb,A6,c6,rfl,fun x hx=>(HP6.out.own.lt x hx).1,?_⟩
      show Row W8 1 _ (p.parts++l).length _
      exact hO
def zgn:ByteArray→Option Rev:=fun _=>none
theorem knOne (p:ByteArray)(g bl be bn:Nat)(Ae:Option Addr)(ce:Nat)(w:World)(hk:Chk w g (.slice none 0 0) (.slice none 0 0) 1 ⟨#[]⟩ ⟨#[]⟩ (.slice Ae 2 ce) (.slice none 0 0) bl be bn)(hL:z7r w bl zgn):
  Calls prog 166 #[.pointer (some ⟨g,0,none⟩),.agg #[.string p,.int .i64 1,.int .i64 1,.bool false,.bool false,.bool false,.int .u64 1,.int .i64 1,.int .i64 0,.string ⟨#[]⟩,.int .i64 0,.int .i64 0]] w fun e w'=>e=.returned (.int .i64 0)∧Below w.heap.size w w':=by
 have hbW:Below w.heap.size w (w.alloc (.cells #[.string p,.int .i64 1,.int .i64 1,.bool false,.bool false,.bool false,.int .u64 1,.int .i64 1,.int .i64 0,.string ⟨#[]⟩,.int .i64 0,.int .i64 0] 90)):=(Below.refl _ _).alloc (Nat.le_refl _) _;have HLV:Hid (Calls prog 204 #[.pointer (some ⟨g,0,none⟩),.string p] (w.alloc (.cells #[.string p,.int .i64 1,.int .i64 1,.bool false,.bool false,.bool false,.int .u64 1,.int .i64 1,.int .i64 0,.string ⟨#[]⟩,.int .i64 0,.int .i64 0] 90)) fun e w'=>e=.returned (.tuple #[.agg #[.string ⟨#[]⟩,.int .i64 0,.int .i64 0,.int .i64 0,.int .i64 0,.bool false,.bool false,.bool false,.int .u64 0,.int .i64 0,.string ⟨#[]⟩,.int .i64 0],.bool false])∧Below (w.alloc (.cells #[.string p,.int .i64 1,.int .i64 1,.bool false,.bool false,.bool false,.int .u64 1,.int .i64 1,.int .i64 0,.string ⟨#[]⟩,.int .i64 0,.int .i64 0] 90)).heap.size (w.alloc (.cells #[.string p,.int .i64 1,.int .i64 1,.bool false,.bool false,.bool false,.int .u64 1,.int .i64 1,.int .i64 0,.string ⟨#[]⟩,.int .i64 0,.int .i64 0] 90)) w'):=hd_ (ze2 zgn p g _ _ _ _ 1 _ _ bl be bn _ (Blk.below hk hbW (Blk.lt hk)) (z2f.below hL hbW));have HX0:=hd_ (z0l w [.string p,.int .i64 1,.int .i64 1,.bool false,.bool false,.bool false,.int .u64 1,.int .i64 1,.int .i64 0,.string ⟨#[]⟩,.int .i64 0,.int .i64 0] 90);have HFT:=hd_ (fun W=>z35 1 false false false W);have HIL:=hd_ (fun W=>z3f 1 W);have HB:=hd_ hbW;clear hk hL hbW;go_enter func166,ntmps166;go_wp2_with fail;refine HLV.out.mono ?_;rintro e w1 ⟨rfl,hb1⟩;dsimp only;have hX1:=(HX0.out.below hb1 HX0.out.lt).alloc (.cells #[.string ⟨#[]⟩,.int .i64 0,.int .i64 0,.int .i64 0,.int .i64 0,.bool false,.bool false,.bool false,.int .u64 0,.int .i64 0,.string ⟨#[]⟩,.int .i64 0] 66);obtain⟨c0,c1,c2,c3,c4,c5,c6,c7,c8,c9,c10,c11⟩:=z7z hX1;have hR:=z0l w1 [.string ⟨#[]⟩,.int .i64 0,.int .i64 0,.int .i64 0,.int .i64 0,.bool false,.bool false,.bool false,.int .u64 0,.int .i64 0,.string ⟨#[]⟩,.int .i64 0] 66;obtain⟨d0,d1,d2,d3,d4,d5,d6,d7,d8,d9,d10,d11⟩:=z7z hR
 have HBW:=hd_ (zcf (z0r HB.out hb1) (.cells #[.string ⟨#[]⟩,.int .i64 0,.int .i64 0,.int .i64 0,.int .i64 0,.bool false,.bool false,.bool false,.int .u64 0,.int .i64 0,.string ⟨#[]⟩,.int .i64 0] 66));have HX1:=hd_ hX1;have HR1:=hd_ hR;clear hb1 hX1 hR HLV HB HX0;go_upto_region 2 with fail;generalize w1.alloc (.cells #[.string ⟨#[]⟩,.int .i64 0,.int .i64 0,.int .i64 0,.int .i64 0,.bool false,.bool false,.bool false,.int .u64 0,.int .i64 0,.string ⟨#[]⟩,.int .i64 0] 66)=W1 at c0 c1 c2 c3 c4 c5 c6 c7 c8 c9 c10 c11 d0 d1 d2 d3 d4 d5 d6 d7 d8 d9 d10 d11 HBW HX1 HR1 ⊢;generalize w1.heap.size=g2 at d0 d1 d2 d3 d4 d5 d6 d7 d8 d9 d10 d11 HR1 ⊢;go_wp2_with fail;refine (HFT.out _).mono ?_;rintro e w5 ⟨rfl,hb5⟩;have HB5:=hd_ (z0r HBW.out hb5);clear c0 c1 c2 c3 c4 c5 c6 c7 c8 c9 c10 c11 d0 d1 d2 d3 d4 d5 d6 d7 d8 d9 d10 d11;obtain⟨c0,c1,c2,c3,c4,c5,c6,c7,c8,c9,c10,c11⟩:=z7z (HX1.out.below hb5 HX1.out.lt);clear hb5;have q0:z2k 90 (z2j 1 false false)=0:=rfl;rw[q0];go_wp2_with fail;refine (HIL.out _).mono ?_;rintro e w6 ⟨rfl,rfl⟩;have q1:z2v 1=true:=rfl;rw[q1];go_wp2_with fail;go_ret;exact⟨rfl,HB5.out⟩
theorem knSize (g bl be bn:Nat)(Ae:Option Addr)(ce:Nat)(w:World)(hk:Chk w g (.slice none 0 0) (.slice none 0 0) 1 ⟨#[]⟩ ⟨#[]⟩ (.slice Ae 2 ce) (.slice none 0 0) bl be bn):Calls prog 113 #[.pointer (some ⟨g,0,none⟩)] w fun e w'=>e=.returned (.int .i64 0)∧Below w.heap.size w w':=by
 obtain⟨k0,k1,k2,k5,k6,-,-,-⟩:=z4a hk;have HK:=hd_ hk;clear hk;go_enter func113,ntmps113;go_upto_region 1 with fail;go_quiet (fail)
 go_wp2_with fail;refine wp_loop_rounds 1 ?_;rw[rounds_succ];go_wp2_with fail;go_ret;exact⟨rfl,below_drewN (Below.refl _ _) _⟩
theorem knRoom (g bl be bn:Nat)(Ae:Option Addr)(ce:Nat)(w:World)(hk:Chk w g (.slice none 0 0) (.slice none 0 0) 1 ⟨#[]⟩ ⟨#[]⟩ (.slice Ae 2 ce) (.slice none 0 0) bl be bn):Calls prog 117 #[.pointer (some ⟨g,0,none⟩)] w fun e w'=>e=.returned (.int .i64 0)∧Below w.heap.size w w':=by
 obtain⟨k0,k1,k2,k5,k6,-,-,-⟩:=z4a hk;clear hk;go_enter func117,ntmps117;go_upto_region 1 with fail;go_quiet (fail)
 go_wp2_with fail;go_ret;exact⟨rfl,below_drewN (Below.refl _ _) _⟩
theorem knRecs (g bl be bn:Nat)(Ae:Option Addr)(ce:Nat)(w:World)(hk:Chk w g (.slice none 0 0) (.slice none 0 0) 1 ⟨#[]⟩ ⟨#[]⟩ (.slice Ae 2 ce) (.slice none 0 0) bl be bn):Calls prog 116 #[.pointer (some ⟨g,0,none⟩)] w fun e w'=>e=.returned (.int .i64 0)∧Below w.heap.size w w':=by
 have hA:Below w.heap.size w (w.alloc (.map #[] 0)):=(Below.refl _ _).alloc (Nat.le_refl _) _;obtain⟨k0,k1,k2,k5,k6,-,-,-⟩:=z4a (Blk.below hk hA (Blk.lt hk));clear hk;have hmm:=@run_makeMap prog;go_enter func116,ntmps116;go_wp2_with fail;refine wp_loop_rounds 1 ?_;rw[rounds_succ];go_wp2_with fail;refine wp_loop_rounds 1 ?_;rw[rounds_succ];go_wp2_with fail;go_ret;exact⟨rfl,hA⟩
def knE (p:ByteArray):Edt:=⟨p,1,⟨1,false,false,false⟩,1,1,0,z2l,0,0⟩
def knA:ByteArray:=⟨#[47,47,100,47,97]⟩
def knB:ByteArray:=⟨#[47,47,100,47,98]⟩
def KnE (w:World)(Ae:Option Addr)(ce:Nat):Prop:=z47 w (.slice Ae 2 ce) [knE knA,knE knB]
def KnAt (w:World)(a:Addr)(p:ByteArray):Prop:=w.cell? a=some (.string p)∧w.cell? ⟨a.block,a.off+1,none⟩=some (.int .i64 1)∧w.cell? ⟨a.block,a.off+2,none⟩=some (.int .i64 1)∧w.cell? ⟨a.block,a.off+3,none⟩=some (.bool false)∧w.cell? ⟨a.block,a.off+4,none⟩=some (.bool false)∧w.cell? ⟨a.block,a.off+5,none⟩=some (.bool false)∧w.cell? ⟨a.block,a.off+6,none⟩=some (.int .u64 1)∧w.cell? ⟨a.block,a.off+7,none⟩=some (.int .i64 1)∧w.cell? ⟨a.block,a.off+8,none⟩=some (.int .i64 0)∧w.cell? ⟨a.block,a.off+9,none⟩=some (.string ⟨#[]⟩)∧w.cell? ⟨a.block,a.off+10,none⟩=some (.int .i64 0)∧w.cell? ⟨a.block,a.off+11,none⟩=some (.int .i64 0)
theorem KnE.at_ {w:World}{A:Option Addr}{c:Nat}(h:KnE w A c)(k:Nat)(hk:k<2):∃ ad p,A=some ad∧ad.block<w.heap.size∧KnAt w (ad.add (k * 12)) p∧(k=0→p=knA)∧(k=1→p=knB):=by
 obtain⟨ad,e,hb,hx⟩:=z47.at_ (l:=[knE knA,knE knB]) h (k:=k) hk;rcases (by omega:k=0∨k=1) with rfl | rfl
 ·exact⟨ad,knA,e,hb,hx,fun _=>rfl,(fun e=>by cases e)⟩
 ·exact⟨ad,knB,e,hb,hx,(fun e=>by cases e),fun _=>rfl⟩
theorem KnE.below {w w':World}{A:Option Addr}{c:Nat}(h:KnE w A c)(hb:Below w.heap.size w w'):KnE w' A c:=z47.below h hb
theorem knMoves (g bl be bn:Nat)(Ae:Option Addr)(ce:Nat)(w:World)(hk:Chk w g (.slice none 0 0) (.slice none 0 0) 1 ⟨#[]⟩ ⟨#[]⟩ (.slice Ae 2 ce) (.slice none 0 0) bl be bn)(hE:KnE w Ae ce):Calls prog 115 #[.pointer (some ⟨g,0,none⟩)] w fun e w'=>e=.returned (.int .i64 0)∧Below w.heap.size w w':=by
 have HK:=hd_ (fun X (h:Below w.heap.size w X)=>z4a (Blk.below hk h (Blk.lt hk)));have HE:=hd_ (fun X (h:Below w.heap.size w X)=>KnE.below hE h);clear hk hE;have hA:Below w.heap.size w (w.alloc (.map #[] 0)):=(Below.refl _ _).alloc (Nat.le_refl _) _;obtain⟨-,-,-,k5,-,-,-,-⟩:=HK.out _ hA;have hmm:=@run_makeMap prog;go_enter func115,ntmps115;go_wp2_with fail;clear hmm k5;generalize w.alloc (.map #[] 0)=W1 at hA ⊢;go_loopw [15] (fun i wr=>∃ k:Nat,i=.int .i64 k∧k≤2∧Below w.heap.size w wr) (fun i _=>2 - (intOf i).toNat)
 case atStart=>exact⟨0,rfl,by omega,hA⟩
 case round =>
  obtain⟨k,rfl,hk,hb⟩:=hrel;by_cases hlt:k<2
  ·obtain⟨ad,p,rfl,hab,⟨x0,x1,x2,x3,x4,x5,x6,x7,x8,x9,x10,x11⟩,-,-⟩:=(HE.out wr hb).at_ k hlt;have hb2:=zcf hb (.cells #[.string p,.int .i64 1,.int .i64 1,.bool false,.bool false,.bool false,.int .u64 1,.int .i64 1,.int .i64 0,.string ⟨#[]⟩,.int .i64 0,.int .i64 0] 90);have q:decide ((k:Int)<2)=true:=by simp;omega
   go_wp2_with fail;go_roundw
   case rel=>exact⟨k+1,by go_num,by omega,hb2⟩
   case measure=>simp [intOf];omega
  ·have hk2:k=2:=by omega
   subst hk2;obtain⟨-,-,-,k5,-,-,-,-⟩:=HK.out _ hb;go_wp2_with fail;clear k5;go_loopw [34] (fun i wr=>∃ k:Nat,i=.int .i64 k∧k≤2∧Below w.heap.size w wr) (fun i _=>2 - (intOf i).toNat)
   case atStart=>exact⟨0,rfl,by omega,hb⟩
   case round =>
    obtain⟨k,rfl,hk,hb⟩:=hrel;by_cases hlt:k<2
    ·obtain⟨ad,p,rfl,hab,⟨x0,x1,x2,x3,x4,x5,x6,x7,x8,x9,x10,x11⟩,-,-⟩:=(HE.out wr hb).at_ k hlt;have hb2:=zcf hb (.cells #[.string p,.int .i64 1,.int .i64 1,.bool false,.bool false,.bool false,.int .u64 1,.int .i64 1,.int .i64 0,.string ⟨#[]⟩,.int .i64 0,.int .i64 0] 90);have q:decide ((k:Int)<2)=true:=by simp;omega
     go_wp2_with fail;go_roundw
     case rel=>exact⟨k+1,by go_num,by omega,hb2⟩
     case measure=>simp [intOf];omega
    ·have hk2:k=2:=by omega
     subst hk2;go_wp2_with fail;go_ret;exact⟨rfl,hb⟩
def znh (w:World)(p:Pat)(e:Ending)(w':World):Prop:=e=.returned (.tuple #[.int .i64 (za2 p),.bool p.rest])∧Below w.heap.size w w'
theorem zni (p:Pat)(A:Option Addr)(c:Nat)(w:World)(hp:za9 w (.slice A p.parts.length c) p)(h0:z7e p=0):
  Calls prog 182 #[.agg #[.slice A p.parts.length c,.bool p.rest]] w (znh w p):=by
 have hB:=z0l w [.slice A p.parts.length c,.bool p.rest] 97;have hA:Below w.heap.size w (w.alloc (.cells #[.slice A p.parts.length c,.bool p.rest] 97)):=(Below.refl _ _).alloc (Nat.le_refl _) _;have HP:=hd_ hp;have HF:=hd_ (fun k (hk:k<p.parts.length)=>zcc h0 hk);have hl12:=zao h0;clear hp h0;go_enter func182,ntmps182;go_upto_region 1 with fail;generalize w.alloc (.cells #[.slice A p.parts.length c,.bool p.rest] 97)=W1 at hB hA ⊢;have d0:W1.cell? ⟨w.heap.size,0,none⟩=some (.slice A p.parts.length c):=hB.cell 0;have d1:W1.cell? ⟨w.heap.size,1,none⟩=some (.bool p.rest):=hB.cell 1;have HA:=hd_ hA;clear hA hB;go_wp2_with fail;go_loop [4,12] (fun s i=>∃ k:Nat,k≤p.parts.length∧i=.int .i64 k∧s=.int .i64 (za1 p.parts k)) (fun _ i=>p.parts.length - (intOf i).toNat)
 case atStart=>exact⟨0,Nat.zero_le _,rfl,rfl⟩
 case round =>
  obtain⟨k,hk,rfl,rfl⟩:=hrel;have hsl:=za5 (l:=p.parts) k;by_cases hlt:k<p.parts.length
  ·obtain⟨ad,rfl,hab,x0⟩:=Strs.at_ (HP.out.below HA.out).1 hlt;have HT:=hd_ (fun X=>z9n p.parts[k] X ((HP.out.small) _ (List.getElem_mem _)));unfold z9k at HT;have HN:=hd_ (za3 hlt);rw[z9b (HF.out k hlt)] at HT;generalize p.parts[k]=part at x0 HT HN;generalize z79 part=st at HT HN;generalize z80 part=sx at HT;generalize za1 p.parts k=m at HN hsl;clear hab;cases st with
   | false =>
    go_wp2_with fail;refine (HT.out _).mono ?_;rintro e w' ⟨rfl,rfl⟩;go_wp2_with fail;go_round
    case rel=>exact⟨k+1,by omega,by go_num,by rw[HN.out];rfl⟩
    case measure=>simp [intOf];omega
   | true =>
    go_wp2_with fail;refine (HT.out _).mono ?_;rintro e w' ⟨rfl,rfl⟩;go_wp2_with fail;go_round
    case rel=>exact⟨k+1,by omega,by go_num,by rw[HN.out];go_num⟩
    case measure=>simp [intOf];omega
  ·have hke:k=p.parts.length:=by omega
   subst hke;rw[za4];go_wp2_with fail;go_region_law (fail)
   go_wp2_with fail;go_ret2;exact⟨rfl,HA.out.drew⟩
theorem znj (ex:Bool)(l r:Pat)(A B:Option Addr)(a b:Nat)(w:World)(hL:za9 w (.slice A l.parts.length a) l)(hR:za9 w (.slice B r.parts.length b) r)(h1:z7e l=0)(h2:z7e r=0)(h3:za2 l=za2 r)(h4:l.rest=r.rest):
  Calls prog 134 #[.agg #[.bool ex,.slice A l.parts.length a,.bool l.rest,.slice B r.parts.length b,.bool r.rest]] w fun e w'=>e=.returned (.int .i64 0)∧Below w.heap.size w w':=by
 have hB:=z0l w [.bool ex,.slice A l.parts.length a,.bool l.rest,.slice B r.parts.length b,.bool r.rest] 119;have hA:Below w.heap.size w (w.alloc (.cells #[.bool ex,.slice A l.parts.length a,.bool l.rest,.slice B r.parts.length b,.bool r.rest] 119)):=(Below.refl _ _).alloc (Nat.le_refl _) _;have HCL:=hd_ (fun X (hX:Below w.heap.size w X)=>zca l A a X (hL.below hX).1 hL.small);have HCR:=hd_ (fun X (hX:Below w.heap.size w X)=>zca r B b X (hR.below hX).1 hR.small);have HKL:=hd_ (fun X (hX:Below w.heap.size w X)=>zni l A a X (hL.below hX) h1);have HKR:=hd_ (fun X (hX:Below w.heap.size w X)=>zni r B b X (hR.below hX) h2);unfold znh at HKL HKR;rw[h1] at HCL;rw[h2] at HCR;rw[← h3,← h4] at HKR;rw[← h4] at HCR ⊢;rw[← h4] at hB hA;clear hL hR h1 h2 h3 h4;generalize za2 l=n at HKL HKR;go_enter func134,ntmps134;go_upto_region 1 with fail;generalize w.alloc (.cells #[.bool ex,.slice A l.parts.length a,.bool l.rest,.slice B r.parts.length b,.bool l.rest] 119)=W1 at hB hA ⊢;have d1:W1.cell? ⟨w.heap.size,1,none⟩=some (.slice A l.parts.length a):=hB.cell 1;have d2:W1.cell? ⟨w.heap.size,2,none⟩=some (.bool l.rest):=hB.cell 2;have HB:=hd_ hB;have HA:=hd_ hA;have HC:=hd_ (HCL.out W1 hA);clear hA hB HCL;go_wp2_with fail;refine HC.out.mono ?_;rintro e w2 ⟨rfl,hb⟩;have HB:=hd_ (HB.out.below hb HB.out.lt);have HA:=hd_ (z0r HA.out hb);clear hb d1 d2 HC;have d3:w2.cell? ⟨w.heap.size,3,none⟩=some (.slice B r.parts.length b):=HB.out.cell 3;have d4:w2.cell? ⟨w.heap.size,4,none⟩=some (.bool l.rest):=HB.out.cell 4;have HC:=hd_ (HCR.out w2 HA.out);clear HCR;go_wp2_with fail;refine HC.out.mono ?_;rintro e w3 ⟨rfl,hb⟩;have HB:=hd_ (HB.out.below hb HB.out.lt);have HA:=hd_ (z0r HA.out hb);clear hb d3 d4 HC;have d1:w3.cell? ⟨w.heap.size,1,none⟩=some (.slice A l.parts.length a):=HB.out.cell 1;have d2:w3.cell? ⟨w.heap.size,2,none⟩=some (.bool l.rest):=HB.out.cell 2;have HC:=hd_ (HKL.out w3 HA.out);clear HKL;go_wp2_with fail;refine HC.out.mono ?_;rintro e w4 ⟨rfl,hb⟩;have HB:=hd_ (HB.out.below hb HB.out.lt)
 have HA:=hd_ (z0r HA.out hb);clear hb d1 d2 HC;have d3:w4.cell? ⟨w.heap.size,3,none⟩=some (.slice B r.parts.length b):=HB.out.cell 3;have d4:w4.cell? ⟨w.heap.size,4,none⟩=some (.bool l.rest):=HB.out.cell 4;have HC:=hd_ (HKR.out w4 HA.out);clear HKR;go_wp2_with fail;refine HC.out.mono ?_;rintro e w5 ⟨rfl,hb⟩;have HA:=hd_ (z0r HA.out hb);clear hb d3 d4 HC;have q1:((n:Int) != (n:Int))=false:=by simp
 cases l.rest
 all_goals
  go_wp2_with fail;go_ret;exact⟨rfl,HA.out⟩
end Go.Proofs.YtegeboijhifmcaaGreatDoor
