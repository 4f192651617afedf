/- pattern.Inside, Within, isBinding, where they answer yes. -/
import Derived.Test.YtegeboijhifmcaaGreatDoorMgw10
import Derived.Test.YtegeboijhifmcaaGreatDoorMgw11
import Derived.Test.YtegeboijhifmcaaGreatDoorMzAlF
import Derived.Test.YtegeboijhifmcaaGreatDoorMgw3
namespace Go.Proofs.YtegeboijhifmcaaGreatDoor
set_option linter.unusedVariables false
set_option linter.unusedSimpArgs false
set_option maxHeartbeats 8000000
set_option maxRecDepth 100000
open Go.RowKit
structure WiOk (p q:Pat):Prop where
 le:q.parts.length≤p.parts.length
 all:∀ k (h:k<q.parts.length),z9s (p.parts[k]'(Nat.lt_of_lt_of_le h le)) q.parts[k]=true
theorem zcj (p q:Pat)(A B:Option Addr)(a b:Nat)(w:World)(hp:za9 w (.slice A p.parts.length a) p)(hq:za9 w (.slice B q.parts.length b) q)(hw:WiOk p q):
  Calls Tryz.prog 249 #[.agg #[.slice A p.parts.length a,.bool true],.agg #[.slice B q.parts.length b,.bool true]] w fun e w'=>e=.returned (.bool true)∧Below w.heap.size w w':=by
 have hA:Below w.heap.size w ((w.alloc (.cells #[.slice A p.parts.length a,.bool true] 97)).alloc (.cells #[.slice B q.parts.length b,.bool true] 97)):=((Below.refl _ _).alloc (Nat.le_refl _) _).alloc (by simp) _
 have h2:zbo ((w.alloc (.cells #[.slice A p.parts.length a,.bool true] 97)).alloc (.cells #[.slice B q.parts.length b,.bool true] 97)) w.heap.size (.slice A p.parts.length a) true:=(z0l w [.slice A p.parts.length a,.bool true] 97).alloc _;have h3:zbo ((w.alloc (.cells #[.slice A p.parts.length a,.bool true] 97)).alloc (.cells #[.slice B q.parts.length b,.bool true] 97)) (w.heap.size+1) (.slice B q.parts.length b) true:=by
  have:=z0l (w.alloc (.cells #[.slice A p.parts.length a,.bool true] 97)) [.slice B q.parts.length b,.bool true] 97;rw[World.size_alloc] at this;exact this
 have q1:decide (p.parts.length<q.parts.length)=false:=by have:=hw.le;simp;omega
 have hlq:q.parts.length≤9223372036854775807:=by
  obtain⟨A',c',e',hcc,hmm,-⟩:=id hq.1;injection e' with e1 e2 e3
  unfold maxLen at hmm;omega
 have HP:=hd_ hp;have HQ:=hd_ hq;have HW:=hd_ hw;clear hp hq hw;go_enter Tryz.func249,Tryz.ntmps249;go_upto_region 1 with fail;generalize (w.alloc (.cells #[.slice A p.parts.length a,.bool true] 97)).alloc (.cells #[.slice B q.parts.length b,.bool true] 97)=W1 at hA h2 h3 ⊢;have x0:=h2.c0;have x1:=h2.c1;have y0:=h3.c0;have y1:=h3.c1;have H:=hd_ (And.intro hA (And.intro h2 h3));clear hA h2 h3;go_quiet (fail)
 go_wp2_with fail;go_loopw [50] (fun i wr=>∃ k:Nat,i=.int .i64 k∧k≤q.parts.length∧Hid (Below W1.heap.size W1 wr)) (fun i _=>q.parts.length - (intOf i).toNat)
 case atStart=>exact⟨0,rfl,Nat.zero_le _,hd_ (below_drewN _ _)⟩
 case round =>
  obtain⟨k,rfl,hk,HI⟩:=hrel;clear x0 x1 y0 y1;by_cases hlt:k<q.parts.length
  ·have hlp:k<p.parts.length:=Nat.lt_of_lt_of_le hlt HW.out.le;obtain⟨ad,rfl,hab,s0⟩:=Strs.at_ (HQ.out.below (z0r H.out.1 HI.out)).1 hlt;obtain⟨ae,rfl,hae,r0⟩:=Strs.at_ (HP.out.below (z0r H.out.1 HI.out)).1 hlp;have x0:=(H.out.2.1.low HI.out).c0;have HC:=hd_ (fun X=>z9u p.parts[k] q.parts[k] X (HP.out.2 _ (List.getElem_mem _)) (HQ.out.2 _ (List.getElem_mem _)));rw[HW.out.all k hlt] at HC;generalize p.parts[k]=s at r0 HC;generalize q.parts[k]=t at s0 HC;have HLT:=hd_ hlt;have hz:(k:Int)<(p.parts.length:Int):=by omega
   clear hab hae;go_wp2_with fail;refine (HC.out _).mono ?_;rintro e w3 ⟨rfl,hb3⟩;have HB:=hd_ (z0r HI.out hb3);clear hb3 x0 s0 r0;go_wp2_with fail;go_roundw
   case rel=>exact⟨k+1,by go_num,by omega,HB⟩
   case measure=>simp [intOf];omega
  ·have hke:k=q.parts.length:=by omega
   subst hke;have HB:=hd_ (z0r H.out.1 HI.out);have hge:¬((q.parts.length:Int)<(q.parts.length:Int)):=by omega
   go_wp2_with fail;go_ret;exact⟨rfl,HB.out⟩
theorem zck (p q:Pat)(A B:Option Addr)(a b:Nat)(w:World)(hp:za9 w (.slice A p.parts.length a) p)(hq:za9 w (.slice B q.parts.length b) q)(hpr:p.rest=true)(hqr:q.rest=true)(hpe:z7e p=0)(hqe:z7e q=0)(hw:WiOk p q):
  Calls Tryz.prog 227 #[.agg #[.slice A p.parts.length a,.bool true],.agg #[.slice B q.parts.length b,.bool true]] w fun e w'=>e=.returned (.bool true)∧Below w.heap.size w w':=by
 have hA:Below w.heap.size w ((w.alloc (.cells #[.slice A p.parts.length a,.bool true] 97)).alloc (.cells #[.slice B q.parts.length b,.bool true] 97)):=((Below.refl _ _).alloc (Nat.le_refl _) _).alloc (by simp) _
 have h2:zbo ((w.alloc (.cells #[.slice A p.parts.length a,.bool true] 97)).alloc (.cells #[.slice B q.parts.length b,.bool true] 97)) w.heap.size (.slice A p.parts.length a) true:=(z0l w [.slice A p.parts.length a,.bool true] 97).alloc _;have h3:zbo ((w.alloc (.cells #[.slice A p.parts.length a,.bool true] 97)).alloc (.cells #[.slice B q.parts.length b,.bool true] 97)) (w.heap.size+1) (.slice B q.parts.length b) true:=by
  have:=z0l (w.alloc (.cells #[.slice A p.parts.length a,.bool true] 97)) [.slice B q.parts.length b,.bool true] 97;rw[World.size_alloc] at this;exact this
 have HCP:=hd_ (fun X (hX:Below w.heap.size w X)=>za0 p A a X (hp.below hX).1 hp.small);have HCQ:=hd_ (fun X (hX:Below w.heap.size w X)=>za0 q B b X (hq.below hX).1 hq.small);rw[hpe,hpr] at HCP;rw[hqe,hqr] at HCQ;have HIN:=hd_ (fun X (hX:Below w.heap.size w X)=>zcj p q A B a b X (hp.below hX) (hq.below hX) hw);clear hp hq hw hpe hqe hpr hqr;go_enter Tryz.func227,Tryz.ntmps227;go_upto_region 1 with fail;generalize (w.alloc (.cells #[.slice A p.parts.length a,.bool true] 97)).alloc (.cells #[.slice B q.parts.length b,.bool true] 97)=W1 at hA h2 h3 ⊢;have x0:=h2.c0;have x1:=h2.c1;have H:=hd_ (And.intro hA (And.intro h2 h3));have HC1:=hd_ (HCP.out W1 hA);clear hA h2 h3;go_wp2_with fail;refine HC1.out.mono ?_;rintro e w2 ⟨rfl,hb⟩;have HB:=hd_ (z0r H.out.1 hb);have HG:=hd_ (And.intro (H.out.2.1.low hb) (H.out.2.2.low hb));have y0:=HG.out.2.c0;have y1:=HG.out.2.c1;have HC2:=hd_ (HCQ.out w2 HB.out);clear hb x0 x1;go_wp2_with fail;refine HC2.out.mono ?_;rintro e w3 ⟨rfl,hb⟩;have HB3:=hd_ (z0r HB.out hb);have x0:=(HG.out.1.low hb).c0;have x1:=(HG.out.1.low hb).c1;have z0:=(HG.out.2.low hb).c0;have z1:=(HG.out.2.low hb).c1;have HC3:=hd_ (HIN.out w3 HB3.out);clear hb y0 y1;go_wp2_with fail;refine HC3.out.mono ?_;rintro e w4 ⟨rfl,hb⟩;have HB4:=hd_ (z0r HB3.out hb);clear hb x0 x1 z0 z1;go_wp2_with fail;go_ret;exact⟨rfl,HB4.out⟩
theorem zcl (l:List ByteArray)(A:Option Addr)(c:Nat)(w:World)(hS:Strs w (.slice A l.length c) l)(hz:∀ x∈l,x.size≤maxLen)(hf:∀ x∈l,z7b x≠0):
  Calls Tryz.prog 229 #[.agg #[.slice A l.length c,.bool true],.bool true] w fun e w'=>e=.returned (.bool true)∧Below w.heap.size w w':=by
 have hB:=z0l w [.slice A l.length c,.bool true] 282;have hA:Below w.heap.size w (w.alloc (.cells #[.slice A l.length c,.bool true] 282)):=(Below.refl _ _).alloc (Nat.le_refl _) _;obtain⟨A',c',e',hcc,hmm,-⟩:=id hS;injection e' with e1 e2 e3
 subst e1 e3;have HS:=hd_ hS;have HF:=hd_ (fun x (hx:x∈l) X=>z7l x X (hz x hx));have HN:=hd_ hf;clear hS hz hf;unfold maxLen at hmm;go_enter Tryz.func229,Tryz.ntmps229;go_upto_region 1 with fail;generalize w.alloc (.cells #[.slice A l.length c,.bool true] 282)=W1 at hB hA ⊢;have d0:W1.cell? ⟨w.heap.size,0,none⟩=some (.slice A l.length c):=hB.cell 0;have d1:W1.cell? ⟨w.heap.size,1,none⟩=some (.bool true):=hB.cell 1;have HA:=hd_ hA;clear hB hA;by_cases h0:l.length=0
 all_goals
  have q0:((l.length:Int) == 0)=decide (l.length=0):=by rw[Bool.eq_iff_iff,beq_iff_eq,decide_eq_true_eq];omega
  first
   | rw[decide_eq_true h0] at q0
   | rw[decide_eq_false h0] at q0
  have H0:=hd_ h0;clear h0;go_wp2_with fail;go_loopw [33] (fun i wr=>∃ k:Nat,i=.int .i64 k∧k≤l.length∧Hid (Below W1.heap.size W1 wr)) (fun i _=>l.length - (intOf i).toNat)
  case atStart=>exact⟨0,rfl,Nat.zero_le _,hd_ (Below.refl _ _)⟩
  case round =>
   obtain⟨k,rfl,hk,HI⟩:=hrel;clear d0 d1;by_cases hlt:k<l.length
   ·obtain⟨ad,rfl,hab,s0⟩:=Strs.at_ (HS.out.below (z0r HA.out HI.out)) hlt;have HC:=hd_ (HF.out l[k] (List.getElem_mem _));have hn:=HN.out l[k] (List.getElem_mem _);generalize l[k]=s at s0 HC hn;have qn:(z7b s == 0)=false:=by simpa using hn
    have HLT:=hd_ hlt;clear hab hn;generalize z7b s=fi at HC qn;go_wp2_with (go_at_call 161;refine (HC.out _).mono ?_;rintro e w' ⟨rfl,rfl⟩)
    go_roundw
    case rel=>exact⟨k+1,by go_num,by omega,HI⟩
    case measure=>simp [intOf];omega
   ·have hke:k=l.length:=by omega
    subst hke;have HB:=hd_ (z0r HA.out HI.out);have hge:¬((l.length:Int)<(l.length:Int)):=by omega
    go_wp2_with fail;go_ret;exact⟨rfl,HB.out⟩
structure zcm (p:Pat):Prop where
 rest:p.rest=true
 pat:z7e p=0
 star:∀ x∈p.parts,z79 x=false
theorem Row.capTo {w:World}{size n c:Nat}{A:Option Addr}{xs:List Value}(h:Row w size (.slice A n c) n xs):Row w size (.slice A n n) n xs:=by
 obtain⟨A',c',e,hc,hm,hl,h0,hx⟩:=h;injection e with e1 e2 e3
 subst e1 e3;exact⟨A,n,rfl,Nat.le_refl _,by omega,hl,fun e=>by have:=h0 e;omega,hx⟩
theorem zcn {P:Program}{w:World}{t e:TypeId}{size n c lo:Nat}{A:Option Addr}{xs:List Value}(ht:P.underlying t=some (.slice e))(hs:∀ w,(sizeOf e).run P w=.ok size w)
  (h:Row w size (.slice A n c) n xs) (h1:lo≤n):
  ∃ A',(∀ X,(Instr.sliceAt t (.slice A n c) (some (.int .i64 lo)) (some (.int .i64 n)) (some (.int .i64 n))).run P X=.ok (.slice A' (n - lo) (n - lo)) X)∧Row w size (.slice A' (n - lo) (n - lo)) (n - lo) (xs.drop (lo * size)):=by
 have he:P.elem t=e:=by simp [Program.elem,ht]
 have hc:n≤c:=by obtain⟨A',c',e,hc,-⟩:=id h;injection e with e1 e2 e3;omega
 have hr:=Row.slice (Row.capTo h) h1 (Nat.le_refl _);rw[List.take_of_length_le (by rw[List.length_drop,h.len,← Nat.sub_mul];exact Nat.le_refl _)] at hr
 refine⟨_,fun X=>?_,hr⟩;have ht':P.underlying t=some (.slice (P.elem t)):=by rw[he];exact ht
 rw[run_sliceAt_slice X t _ _ _ _ ht',run_slice_lhm X t A n c ht' _ _ _ _ _ _ (by omega) (by omega) (by omega) (by omega),he,hs]
 simp [Result.andThen,sliced]
theorem zco:z0e Tryz.prog 257 282 2 32:=z0f Tryz.underlying257 (z:=.agg #[.slice none 0 0,.bool false]) (by kernel_rfl) rfl (by decide)
def zcp (w:World)(p q:Pat)(e:Ending)(w':World):Prop:=Below w.heap.size w w'∧∃ B1 c1 A c,e=.returned (.tuple #[.slice (some B1) 1 c1,.bool true])∧Row w' 2 (.slice (some B1) 1 c1) 1 [.slice A (q.parts.length - p.parts.length) c,.bool true]∧Strs w' (.slice A (q.parts.length - p.parts.length) c) (q.parts.drop p.parts.length)
theorem zcq (p q:Pat)(A B:Option Addr)(a b:Nat)(w:World)(hp:za9 w (.slice A p.parts.length a) p)(hq:za9 w (.slice B q.parts.length b) q)(hn:zcm p)(hqr:q.rest=true)(hqe:z7e q=0)(hw:WiOk q p):
  Calls Tryz.prog 189 #[.agg #[.slice A p.parts.length a,.bool true],.agg #[.slice B q.parts.length b,.bool true]] w (zcp w p q):=by
 have hA:Below w.heap.size w ((w.alloc (.cells #[.slice A p.parts.length a,.bool true] 97)).alloc (.cells #[.slice B q.parts.length b,.bool true] 97)):=((Below.refl _ _).alloc (Nat.le_refl _) _).alloc (by simp) _
 have h2:zbo ((w.alloc (.cells #[.slice A p.parts.length a,.bool true] 97)).alloc (.cells #[.slice B q.parts.length b,.bool true] 97)) w.heap.size (.slice A p.parts.length a) true:=(z0l w [.slice A p.parts.length a,.bool true] 97).alloc _;have h3:zbo ((w.alloc (.cells #[.slice A p.parts.length a,.bool true] 97)).alloc (.cells #[.slice B q.parts.length b,.bool true] 97)) (w.heap.size+1) (.slice B q.parts.length b) true:=by
  have:=z0l (w.alloc (.cells #[.slice A p.parts.length a,.bool true] 97)) [.slice B q.parts.length b,.bool true] 97;rw[World.size_alloc] at this;exact this
 have HWI:=hd_ (fun X (hX:Below w.heap.size w X)=>zck q p B A b a X (hq.below hX) (hp.below hX) hqr hn.rest hqe hn.pat hw);have HCL:=hd_ (fun X (hX:Below w.heap.size w X)=>zap q.parts _ X (hq.below hX).1 (by have:=zao hqe;omega))
 have hlq:=zao hqe;have hle:=hw.le;have HP:=hd_ hp;have HST:=hd_ hn.star;clear hp hq hw hn hqe hqr;go_enter Tryz.func189,Tryz.ntmps189;go_upto_region 1 with fail;generalize (w.alloc (.cells #[.slice A p.parts.length a,.bool true] 97)).alloc (.cells #[.slice B q.parts.length b,.bool true] 97)=W1 at hA h2 h3 ⊢;have x0:=h2.c0;have x1:=h2.c1;have y0:=h3.c0;have y1:=h3.c1;have H:=hd_ (And.intro hA (And.intro h2 h3));have HC1:=hd_ (HWI.out W1 hA);clear hA h2 h3 HWI;go_wp2_with fail;refine HC1.out.mono ?_;rintro e w2 ⟨rfl,hb⟩;have HB:=hd_ (z0r H.out.1 hb);have HG:=hd_ (And.intro (H.out.2.1.low hb) (H.out.2.2.low hb));clear hb x0 x1 y0 y1 H HC1;have y0:=HG.out.2.c0;have HC2:=hd_ (HCL.out w2 HB.out);clear HCL;go_wp2_with fail;refine HC2.out.mono ?_;rintro e w3 ⟨v',rfl,hown,hb⟩;have HB3:=hd_ (z0r HB.out hb);have HG:=hd_ (And.intro (HG.out.1.low hb) (HG.out.2.low hb));have hlow:w.heap.size≤w2.heap.size:=HB.out.size;have HO:=hd_ hown;obtain⟨Av,cv,rfl⟩:=z0o hown;obtain⟨A',hcut,hrow⟩:=zcn (P:=Tryz.prog) (t:=29) Tryz.underlying29 zby (Row.of_own hown) hle;rw[Nat.mul_one] at hrow;have HR:=hd_ hrow;clear hb y0 hown hrow HC2;have x0:=HG.out.1.c0;go_wp2_with fail;go_loopw [7,21] (fun bv i wr=>∃ k:Nat,bv=.slice none 0 0∧i=.int .i64 k∧k≤p.parts.length∧Hid (Below w3.heap.size w3 wr)) (fun _ i _=>p.parts.length - (intOf i).toNat)
 case atStart=>exact⟨0,rfl,rfl,Nat.zero_le _,hd_ (Below.refl _ _)⟩
 case round =>
  obtain⟨k,rfl,rfl,hk,HI⟩:=hrel;clear x0;by_cases hlt:k<p.parts.length
  ·obtain⟨ad,rfl,hab,s0⟩:=Strs.at_ (HP.out.below (z0r HB3.out HI.out)).1 hlt;have HC:=hd_ (fun X=>z7k p.parts[k] X);rw[HST.out _ (List.getElem_mem _)] at HC;generalize p.parts[k]=s at s0 HC;have HLT:=hd_ hlt;clear hab;go_wp2_with (go_at_call 110;refine (HC.out _).mono ?_;rintro e w' ⟨rfl,rfl⟩)
   go_roundw
   case rel=>exact⟨k+1,rfl,by go_num,by omega,HI⟩
   case measure=>simp [intOf];omega
  ·have hke:k=p.parts.length:=by omega
   subst hke;have HG4:=hd_ (And.intro (HG.out.1.low HI.out) (HG.out.2.low HI.out));have HB4:=hd_ (z0r HB3.out HI.out);have HR4:=hd_ (Row.below HR.out HI.out);have hge:¬((p.parts.length:Int)<(p.parts.length:Int)):=by omega
   have x0:=HG4.out.1.c0;have x1:=HG4.out.1.c1;have y1:=HG4.out.2.c1;clear HG HB3 HO HR HB;go_upto_region 14 with fail;refine wp_region_noPanic ?_;go_region_law (refine zce rfl rfl zco (World.ownsRow_nil _ wr.heap.size _ _) (by simp [Act.eval,Act.put]) (Row.drewN (z0i wr [.slice A' (q.parts.length - p.parts.length) (q.parts.length - p.parts.length),.bool true] _ 2 1 rfl (by decide) _ rfl) 1) (by simp [Act.eval,Act.put]) (by simp [Value.oneCell']) (by decide) (by decide) (by simp) ?_;intro A6 c6 w6 hO6 hG6 hw6)
   all_goals
    refine NoPanic.normal ?_;have HO6:=hd_ hO6;have HG6:=hd_ hG6;clear hO6 hG6 hw6;have hk:=‹∀(a:Act) (w:World),Code.wp _ _ _ a w→_›;refine hk _ _ ?_;clear hk;go_wp2_with fail;go_ret2;have hb6:Below wr.heap.size wr w6:=(((Below.refl _ _).alloc (Nat.le_refl _) _).drew).grown HG6.out (by simp) (fun k e=>by cases e)
    have hR6:=Row.of_own HO6.out;obtain⟨A9,c9,e9,-,-,-,-,hx9⟩:=id hR6;obtain⟨ad9,rfl,-⟩:=hx9 (by omega)
    injection e9 with e9 _ e10
    subst e9 e10;exact⟨z0r HB4.out hb6,ad9,_,A',_,rfl,hR6,by
     show Row w6 1 _ (List.drop p.parts.length q.parts).length _
     rw[List.length_drop,List.map_drop];exact Row.below HR4.out hb6⟩
def zcr (w:World)(p:Pat)(l:List ByteArray)(e:Ending)(w':World):Prop:=Below w.heap.size w w'∧∃ A' c',e=.returned (.tuple #[.agg #[.slice A' (p.parts.length+l.length) c',.bool true],.int .i64 0])∧(∀ x,(Value.slice A' (p.parts.length+l.length) c').ownBlock=some x→w.heap.size≤x)∧Strs w' (.slice A' (p.parts.length+l.length) c') (p.parts++l)
structure zcs (w wr:World)(g4 g11:Nat)(v:Value)(b:Bool)(l:List ByteArray):Prop where
 low:Below w.heap.size w wr
 le4:w.heap.size≤g4
 le:g4<g11
 box4:zbo wr g4 (.slice none 0 0) false
 box:zbo wr g11 v b
 own:wr.ownsRow w.heap.size 9 1 v l.length (l.map .string)
 ne4:v.ownBlock≠some g4
 ne:v.ownBlock≠some g11
theorem zcs.under {w wr wx:World}{g4 g11:Nat}{v:Value}{b:Bool}{l:List ByteArray}(h:zcs w wr g4 g11 v b l)(hb:Below wr.heap.size wr wx):zcs w wx g4 g11 v b l:=⟨z0r h.low hb,h.le4,h.le,h.box4.low hb,h.box.low hb,z0n h.own hb,h.ne4,h.ne⟩
theorem zcs.app {w wr w2:World}{g4 g11:Nat}{v:Value}{b:Bool}{l m:List ByteArray}{A':Option Addr}{c' n:Nat}(h:zcs w wr g4 g11 v b l)(hn:n=l.length+m.length)
  (hown:w2.ownsRow w.heap.size 9 1 (.slice A' n c') n (l.map .string++m.map .string)) (hgr:wr.grownBy w2 v.ownBlock)
  (hob:(Value.slice A' n c').ownBlock=v.ownBlock∨(Value.slice A' n c').ownBlock=some wr.heap.size):
  zcs w (w2.setCell ⟨g11,0,none⟩ (.slice A' n c')) g4 g11 (.slice A' n c') b (l++m):=by
 have l4:=Blk.lt h.box4;have l11:=Blk.lt h.box;have n4:(Value.slice A' n c').ownBlock≠some g4:=by
  rcases hob with e | e
  ·rw[e];exact h.ne4
  ·rw[e];intro e2;injection e2 with e2;omega
 have n11:(Value.slice A' n c').ownBlock≠some g11:=by
  rcases hob with e | e
  ·rw[e];exact h.ne
  ·rw[e];intro e2;injection e2 with e2;omega
 have hlt:=h.le;have hl4:=h.le4;refine⟨(h.low.grown hgr h.low.size (fun k e=>(h.own.lt k e).1)).setCell (p:=⟨g11,0,none⟩) (by show w.heap.size≤g11;omega) _,h.le4,h.le,Blk.far (Blk.grown h.box4 hgr (fun e=>h.ne4 e.symm)) (by show g11≠g4;omega) _,(Blk.grown h.box hgr (fun e=>h.ne e.symm)).set_ 0 _,?_,n4,n11⟩
 have hl:(l++m).length=n:=by rw[List.length_append,hn]
 rw[hl,List.map_append];exact z4r hown (p:=⟨g11,0,none⟩) n11 _
theorem zct {p:Pat}(h:zcm p):za2 p=0:=by
 unfold za2;rw[List.filter_eq_nil_iff.2]
 ·rfl
 ·intro x hx;rw[h.star x hx];decide
theorem zcu (p:Pat)(l:List ByteArray)(A:Option Addr)(a:Nat)(B1:Addr)(c1:Nat)(C:Option Addr)(m c:Nat)(w:World)(hp:za9 w (.slice A p.parts.length a) p)(hn:zcm p)
  (hb:Row w 2 (.slice (some B1) 1 c1) 1 [.slice C m c,.bool true]) (hl:Strs w (.slice C m c) l) (hz:∀ x∈l,x.size≤1000000) (hf:∀ x∈l,z7b x≠0) (hle:p.parts.length+l.length≤12):
  Calls Tryz.prog 190 #[.agg #[.slice A p.parts.length a,.bool true],.slice (some B1) 1 c1] w (zcr w p l):=by
 have hml:m=l.length:=by obtain⟨A',c',e,-⟩:=id hl;injection e
 subst hml;have hcells:w.cell? B1=some (.slice C l.length c)∧w.cell? ⟨B1.block,B1.off+1,none⟩=some (.bool true)∧B1.block<w.heap.size:=by
  obtain⟨A',c',e,-,-,-,-,hx⟩:=id hb;injection e with e1 e2 e3
  obtain⟨ad,e4,hb4,hc4⟩:=hx (by omega)
  rw[← e1] at e4;injection e4 with e4
  subst e4;have h0:=hc4 0 _ rfl;have h1:=hc4 1 _ rfl;unfold Addr.add at h0 h1;exact⟨by simpa using h0,by simpa using h1,hb4⟩
 have hcap:1≤c1:=by
  obtain⟨A',c',e,h1,-⟩:=id hb;injection e with e1 e2 e3
  omega
 have hA:Below w.heap.size w ((w.alloc (.cells #[.slice A p.parts.length a,.bool true] 97)).alloc (.cells #[.slice none 0 0,.bool false] 97)):=((Below.refl _ _).alloc (Nat.le_refl _) _).alloc (by simp) _
 have h2:zbo ((w.alloc (.cells #[.slice A p.parts.length a,.bool true] 97)).alloc (.cells #[.slice none 0 0,.bool false] 97)) w.heap.size (.slice A p.parts.length a) true:=(z0l w [.slice A p.parts.length a,.bool true] 97).alloc _;have h3:zbo ((w.alloc (.cells #[.slice A p.parts.length a,.bool true] 97)).alloc (.cells #[.slice none 0 0,.bool false] 97)) (w.heap.size+1) (.slice none 0 0) false:=by
  have:=z0l (w.alloc (.cells #[.slice A p.parts.length a,.bool true] 97)) [.slice none 0 0,.bool false] 97;rw[World.size_alloc] at this;exact this
 have HKI:Hid (∀ X,Below w.heap.size w X→Calls Tryz.prog 124 #[.agg #[.slice A p.parts.length a,.bool true]] X (za6 X p)):=hd_ (fun X hX=>by have:=za7 p A a X (hp.below hX).1 hp.small;rw[hn.rest] at this;exact this)
 have HCL:=hd_ (fun X (hX:Below w.heap.size w X)=>zap p.parts _ X (hp.below hX).1 (by omega))
 have HIB:=hd_ (fun X (hX:Below w.heap.size w X)=>zcl l C c X (hl.below hX) (fun x hx=>by have:=hz x hx;unfold maxLen;omega) hf)
 have HP:=hd_ hp;have HN:=hd_ hn;have HL:=hd_ hl;have HCE:=hd_ hcells;have HNS:=hd_ (zct hn);have HLE:=hd_ hle;clear hp hn hl hcells hz hf hb;go_enter Tryz.func190,Tryz.ntmps190;go_upto_region 1 with fail;generalize (w.alloc (.cells #[.slice A p.parts.length a,.bool true] 97)).alloc (.cells #[.slice none 0 0,.bool false] 97)=W1 at hA h2 h3 ⊢;have x0:=h2.c0;have x1:=h2.c1;have H:=hd_ (And.intro hA (And.intro h2 h3));have HC1:=hd_ (HKI.out W1 hA);clear hA h2 h3 HKI;go_wp2_with fail;refine HC1.out.mono ?_;rintro e w2 ⟨n,b',rfl,hk,hb⟩;obtain⟨rfl,hb'⟩:=hk HN.out.pat;rw[HN.out.rest] at hb';subst hb';rw[HNS.out];have hpe:z7e p=0:=HN.out.pat;rw[hpe];have HB:=hd_ (z0r H.out.1 hb);have HG:=hd_ (And.intro (H.out.2.1.low hb) (H.out.2.2.low hb));clear hb x0 x1 hk hpe HC1 H;go_wp2_with fail;go_loopw [45] (fun i wr=>∃ k:Nat,i=.int .i64 k∧k≤1∧Hid (Below w2.heap.size w2 wr)) (fun i _=>1 - (intOf i).toNat)
 case atStart=>exact⟨0,rfl,Nat.zero_le _,hd_ (Below.refl _ _)⟩
 case round =>
  obtain⟨k,rfl,hk,HI⟩:=hrel;by_cases hlt:k<1
  ·have hk0:(k:Int)=0:=by omega
   have q0:((k:Int) == 0)=true:=by rw[hk0];rfl
   have HK0:=hd_ hk0;have hadd:B1.add (k * 2)=B1:=by
    have:k=0:=by omega
    subst this;unfold Addr.add;simp
   have s0:wr.cell? (B1.add (k * 2))=some (.slice C l.length c):=by rw[hadd];exact ((HB.out.trans (HI.out.mono HB.out.size)).cell HCE.out.2.2).trans HCE.out.1
   have s1:wr.cell? ⟨(B1.add (k * 2)).block,(B1.add (k * 2)).off+1,none⟩=some (.bool true):=by rw[hadd];exact ((HB.out.trans (HI.out.mono HB.out.size)).cell (p:=⟨B1.block,B1.off+1,none⟩) HCE.out.2.2).trans HCE.out.2.1
   clear hk0 hadd;have hX:Below w2.heap.size w2 (wr.alloc (.cells #[.slice C l.length c,.bool true] 282)):=HI.out.alloc HI.out.size _;have HCQ:=hd_ (HIB.out _ (z0r HB.out hX));have HX:=hd_ hX;clear hX;go_wp2_with fail;refine HCQ.out.mono ?_;rintro e w4 ⟨rfl,hb⟩;have HB4:=hd_ (z0r HX.out hb);clear hb s0 s1;go_wp2_with fail;go_roundw
   case rel=>exact⟨k+1,by go_num,by omega,HB4⟩
   case measure=>simp [intOf];omega
  ·have hk1:k=1:=by omega
   subst hk1;have HB3:=hd_ (z0r HB.out HI.out);have HG3:=hd_ (And.intro (HG.out.1.low HI.out) (HG.out.2.low HI.out));have HC3:=hd_ (HCL.out wr HB3.out);have x0:=HG3.out.1.c0;clear HCL HIB HG HI HB;go_wp2_with fail;refine HC3.out.mono ?_;rintro e w4 ⟨v',rfl,hown,hb⟩;obtain⟨Av,cv,rfl⟩:=z0o hown;have HB4:=hd_ (z0r HB3.out hb);have hg4:=HG3.out.2.low hb;have hsz4:=hb.size;have hw4:=HB3.out.size;have hlt4:=Blk.lt HG3.out.2;have HS:Hid (zcs w (w4.alloc (.cells #[.slice Av p.parts.length cv,.bool false] 97)) (w.heap.size+1) w4.heap.size (.slice Av p.parts.length cv) false p.parts):=hd_ (by
    have hba:Below w4.heap.size w4 (w4.alloc (.cells #[.slice Av p.parts.length cv,.bool false] 97)):=(Below.refl _ _).alloc (Nat.le_refl _) _;refine⟨z0r HB4.out hba,by omega,by have:=Blk.lt hg4;omega,hg4.low hba,z0l w4 _ _,z4p (z0n hown hba) hw4,fun e=>?_,fun e=>?_⟩
    ·have:=(hown.lt _ e).1;omega
    ·have:=(hown.lt _ e).2;omega)
   have HB5:=hd_ hb;clear hb hown hg4 x0 HC3;have y0:=HS.out.box.c0;go_upto_region 13 with fail;generalize w4.alloc (.cells #[.slice Av p.parts.length cv,.bool false] 97)=W5 at HS y0 ⊢;generalize w4.heap.size=g11 at HS y0 ⊢;clear hsz4 hw4 hlt4;go_wp2_with fail;go_loopw [1,65] (fun lv i wr=>∃ j:Nat,lv=.slice (some B1) 1 c1∧i=.int .i64 j∧j≤p.parts.length∧Hid (Below W5.heap.size W5 wr)) (fun _ i _=>p.parts.length - (intOf i).toNat)
   case atStart=>exact⟨0,rfl,rfl,Nat.zero_le _,hd_ (Below.refl _ _)⟩
   case round =>
    obtain⟨j,rfl,rfl,hj,HJ⟩:=hrel;clear y0;have HSJ:=hd_ (HS.out.under HJ.out);by_cases hlt2:j<p.parts.length
    ·have hrow:Strs wr (.slice Av p.parts.length cv) p.parts:=Row.of_own HSJ.out.own;obtain⟨ad,rfl,hab,s0⟩:=Strs.at_ hrow hlt2;have HT:=hd_ (fun X=>z7k p.parts[j] X);rw[HN.out.star _ (List.getElem_mem _)] at HT;generalize p.parts[j]=s at s0 HT;have HLT:=hd_ hlt2;clear hab hrow;go_wp2_with (go_at_call 110;refine (HT.out _).mono ?_;rintro e w' ⟨rfl,rfl⟩)
     go_roundw
     case rel=>exact⟨j+1,rfl,by go_num,by omega,HJ⟩
     case measure=>simp [intOf];omega
    ·have hje:j=p.parts.length:=by omega
     subst hje;have hge:¬((p.parts.length:Int)<(p.parts.length:Int)):=by omega
     have y0:=HSJ.out.box.c0;have b0:wr.cell? B1=some (.slice C l.length c):=(HSJ.out.low.cell HCE.out.2.2).trans HCE.out.1;have b1:wr.cell? ⟨B1.block,B1.off+1,none⟩=some (.bool true):=(HSJ.out.low.cell (p:=⟨B1.block,B1.off+1,none⟩) HCE.out.2.2).trans HCE.out.2.1;have q12:decide ((12:Int)<(p.parts.length:Int)+(l.length:Int))=false:=by have:=HLE.out;simp;omega
     have q13:decide (12<p.parts.length+l.length)=false:=by have:=HLE.out;simp;omega
     go_upto_region 20 with fail;go_quiet (fail)
     go_upto_region 22 with fail;have HSQ:=hd_ (HSJ.out.under (below_drewN wr nq));generalize wr.drewN nq=W9 at HSQ ⊢;clear y0 b0 b1;have y0:=HSQ.out.box.c0;have b0:W9.cell? B1=some (.slice C l.length c):=(HSQ.out.low.cell HCE.out.2.2).trans HCE.out.1;have b1:W9.cell? ⟨B1.block,B1.off+1,none⟩=some (.bool true):=(HSQ.out.low.cell (p:=⟨B1.block,B1.off+1,none⟩) HCE.out.2.2).trans HCE.out.2.1;have h1:∀ u∈l.map Value.string,u.oneCell'=true:=fun u hu=>by
      obtain⟨b,-,rfl⟩:=List.mem_map.1 hu;rfl
     have H1:=hd_ h1;have hl12:p.parts.length+l.length≤12:=HLE.out;have HHS:Hid (w.heap.size≤W9.drew.heap.size):=hd_ HSQ.out.low.drew.size;clear h1;refine wp_region_noPanic ?_;go_region_law (refine zce rfl rfl z87 (z0n HSQ.out.own ((Below.refl _ _).drew)) (by simp [Act.eval,Act.put]) (HL.out.below HSQ.out.low.drew) (by simp [Act.eval,Act.put]) H1.out (by omega) (by unfold maxLen;omega) HHS.out ?_;intro A6 c6 w6 hO6 hG6 hw6;have hbx:=Blk.grown (HSQ.out.under ((Below.refl _ _).drew)).box hG6 (fun e=>HSQ.out.ne e.symm);have g0:w6.frozen? ⟨g11,0,none⟩=false:=zbo.f0 hbx;have z0:w6.cell? ⟨g11,0,none⟩=some (.slice Av p.parts.length cv):=zbo.c0 hbx)
     all_goals
      refine NoPanic.normal ?_;have HP6:=hd_ ((HSQ.out.under ((Below.refl _ _).drew)).app rfl hO6 hG6 hw6);clear hO6 hG6 hw6 hbx g0 z0 y0 b0 b1;generalize w6.setCell ⟨g11,0,none⟩ (.slice A6 (p.parts.length+l.length) c6)=W7 at HP6 ⊢;have hk:=‹∀(a:Act) (w:World),Code.wp _ _ _ a w→_›;refine hk _ _ ?_;clear hk;have b1:W7.cell? ⟨B1.block,B1.off+1,none⟩=some (.bool true):=(HP6.out.low.cell (p:=⟨B1.block,B1.off+1,none⟩) HCE.out.2.2).trans HCE.out.2.1;have y0:=HP6.out.box.c0;have y1:=HP6.out.box.c1;have f1:=HP6.out.box.f1;obtain⟨u0,u1,u2,u3⟩:=HP6.out.box4.all;have hne:¬(w.heap.size+1=g11):=by have:=HP6.out.le;omega
      have hne2:¬(g11=w.heap.size+1):=by have:=HP6.out.le;omega
      go_wp2_with fail;have hE:=zbo.put (show zbo (W7.setCell ⟨g11,1,none⟩ (.bool true)) (w.heap.size+1) (.slice none 0 0) false from Blk.far HP6.out.box4 (p:=⟨g11,1,none⟩) hne2 (.bool true)) (.slice A6 (p.parts.length+l.length) c6) true;have hb:=zbp (HP6.out.low.setCell (p:=⟨g11,1,none⟩) (by show w.heap.size≤g11;have:=HP6.out.le;have:=HP6.out.le4;omega) (.bool true)) (g:=w.heap.size+1) (by omega) (.slice A6 (p.parts.length+l.length) c6) (.bool true)
      have hO:=Row.of_own (z4r (z4r (z4r HP6.out.own (p:=⟨g11,1,none⟩) HP6.out.ne (.bool true)) (p:=⟨w.heap.size+1,0,none⟩) HP6.out.ne4 (.slice A6 (p.parts.length+l.length) c6)) (p:=⟨w.heap.size+1,1,none⟩) HP6.out.ne4 (.bool true));generalize ((W7.setCell ⟨g11,1,none⟩ (.bool true)).setCell ⟨w.heap.size+1,0,none⟩ (.slice A6 (p.parts.length+l.length) c6)).setCell ⟨w.heap.size+1,1,none⟩ (.bool true)=W8 at hE hb hO ⊢;obtain⟨-,-,c0,c1⟩:=hE.all;refine bodyPost_ret (v:=.tuple #[.agg #[.slice A6 (p.parts.length+l.length) c6,.bool true],.int .i64 0]) (by simp [results,Tryz.results190,go_sem,c0,c1]) rfl ⟨hb,A6,c6,rfl,fun x hx=>(HP6.out.own.lt x hx).1,?_⟩
      show Row W8 1 _ (p.parts++l).length _
      exact hO
end Go.Proofs.YtegeboijhifmcaaGreatDoor
