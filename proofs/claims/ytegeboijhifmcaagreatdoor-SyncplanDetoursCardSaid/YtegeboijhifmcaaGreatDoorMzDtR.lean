/- A part of the proof. -/
import Derived.Test.YtegeboijhifmcaaGreatDoorMgw43
set_option linter.unusedVariables false
set_option linter.unusedSimpArgs false
set_option maxHeartbeats 8000000
set_option maxRecDepth 100000
namespace Go.Proofs.YtegeboijhifmcaaGreatDoor
open Go.RowKit
theorem z6t.refl (S:List Nat)(w:World):z6t S w w:=z6t.below (Below.refl _ _)
theorem dtR6 (ops:Array Oper)(hops:Tryz.f9.body.bind (zci 6)=some ops)(Q:Exit→Act→World→Prop)(V:World)(g g3 n cd cq:Nat)(Ad Aq:Option Addr)(xv:Value)(tp:Int)(htp:0≤tp∧tp≤100)
  (P1:List zd8→Value→World→Prop) (P2:List zd8→Value→Int→World→Prop) (P3:Value→World→Prop)
  (hC:∀ X,z6t [g] V X→X.cell? ⟨g3,0,none⟩=some (.slice Ad n cd)∧X.cell? ⟨g3,1,none⟩=some (.slice Aq 0 cq))
  (hM:∀ X,Below V.heap.size V X→Calls Tryz.prog 25 #[.pointer (some ⟨g,0,none⟩)] X fun e w'=>∃ es mv,e=.returned mv∧z6t [g] V w'∧P1 es mv w')
  (hT:∀ es mv Y X,P1 es mv Y→Below Y.heap.size Y X→Calls Tryz.prog 26 #[.agg #[.slice Ad n cd,.slice Aq 0 cq]] X fun e w'=>e=.returned (.int .i64 tp)∧Below X.heap.size X w')
  (hN:∀ es mv Y X,P1 es mv Y→Below Y.heap.size Y X→Calls Tryz.prog 24 #[.pointer (some ⟨g,0,none⟩),.int .i64 (tp+2)] X fun e w'=>∃ r,e=.returned (.int .i64 r)∧z6t [g] X w'∧P2 es mv r w')
  (hP:∀ es mv r Y X,P2 es mv r Y→Below Y.heap.size Y X→Calls Tryz.prog 12 #[.agg #[.slice Ad n cd,.slice Aq 0 cq],mv,.int .i64 r,xv,.slice none 0 0,.slice none 0 0] X fun e w'=>∃ pv,e=.returned (.tuple #[pv,.int .i64 0])∧Below X.heap.size X w'∧P3 pv w')
  (hX:∀ pv Y X,P3 pv Y→Below Y.heap.size Y X→P3 pv X)
  (u0 u1 u2 u6 u7 u8 u9 gn gt gu gx gy gz gA gC gD gE gF gG gH gI gJ gK gL gM gN gO gP gQ gR gT gV gW gX gY gZ i6 i7 i8 ia ib ic ie ig ii ij ik il im io ip iq ir iu iv iw ix iy iz iA iB iC iD iE iF iG iH iI iJ iK iL iM iN iO iP iQ iR iS iT iU iV iW iX iY iZ j0 j1 j2 j5 j6 j7 j8 j9 jb jd je jf bw bz bA bB bD bE bF bG bH bI bJ bK:Value)
  (hQ:∀(eH eI eJ eK eL eM eN eO eP eQ eR eS eT eU eV:Value) (pv:Value) (w':World),P3 pv w'→Q .normal ⟨#[u0,u1,u2,.pointer (some ⟨g3,0,none⟩),.pointer (some ⟨g,0,none⟩),xv,u6,pv,.int .i64 0,u9,gn,gt,gu,gx,gy,gz,gA,gC,gD,gE,gF,gG,gH,gI,gJ,gK,gL,gM,gN,gO,eH,eI,eJ,eK,eL,eM,eN,eO,eP,eQ,eR,eS,eT,eU,eV,ie,ig,ii,ij,ik,il,im,io,ip,iq,ir,iu,iv,iw,ix,iy,iz,iA,iB,iC,iD,iE,iF,iG,iH,iI,iJ,iK,iL,iM,iN,iO,iP,iQ,iR,iS,iT,iU,iV,iW,iX,iY,iZ,j0,j1,j2,j5,j6,j7,j8,j9,jb,jd,je,jf,bw,bz,bA,bB,bD,bE,bF,bG,bH,bI,bJ,bK],[]⟩ w'):
  (Code.region 6 ops true).wp Tryz.prog Q ⟨#[u0,u1,u2,.pointer (some ⟨g3,0,none⟩),.pointer (some ⟨g,0,none⟩),xv,u6,u7,u8,u9,gn,gt,gu,gx,gy,gz,gA,gC,gD,gE,gF,gG,gH,gI,gJ,gK,gL,gM,gN,gO,gP,gQ,gR,gT,gV,gW,gX,gY,gZ,i6,i7,i8,ia,ib,ic,ie,ig,ii,ij,ik,il,im,io,ip,iq,ir,iu,iv,iw,ix,iy,iz,iA,iB,iC,iD,iE,iF,iG,iH,iI,iJ,iK,iL,iM,iN,iO,iP,iQ,iR,iS,iT,iU,iV,iW,iX,iY,iZ,j0,j1,j2,j5,j6,j7,j8,j9,jb,jd,je,jf,bw,bz,bA,bB,bD,bE,bF,bG,bH,bI,bJ,bK],[]⟩ V:=by
 simp only[Tryz.f9,Option.bind_some,zci] at hops
 simp at hops
 subst hops;have HQ:=hd_ hQ;have HM:=hd_ hM;have HT:=hd_ hT;have HN:=hd_ hN;have HP:=hd_ hP;have HX:=hd_ hX;have HC:=hd_ hC;obtain⟨x0,x1⟩:=hC V (z6t.refl _ _);have hwb:IntKind.i64.wrap (tp+2)=tp+2:=by rw[IntKind.wrap_i64];omega
 clear hQ hM hT hN hP hX hC htp;go_region_held3 (fun w'=>z6t [g] V w'∧w'.cell? ⟨g3,0,none⟩=some (.slice Ad n cd)∧w'.cell? ⟨g3,1,none⟩=some (.slice Aq 0 cq))
  ((refine z3n ?_ (HC.out _);repeat (first | with_reducible assumption | with_reducible exact z6t.refl _ _ | with_reducible refine z6t.drew ?_)))
  (first
   | (go_at_call 25;refine (HM.out _ (by repeat (first | with_reducible exact Below.refl _ _ | with_reducible refine Below.drew ?_))).mono ?_;rintro e w5 ⟨es,mv,rfl,hK5,hp1⟩;have HP1:=hd_ hp1;clear hp1)
   | (go_at_call 26;refine (HT.out es mv w5 _ HP1.out (by repeat (first | with_reducible exact Below.refl _ _ | with_reducible refine Below.drew ?_))).mono ?_;rintro e w6 ⟨rfl,hb6⟩;have HB6:Hid (Below w5.heap.size w5 w6):=hd_ ((by repeat (first | with_reducible exact Below.refl _ _ | with_reducible refine Below.drew ?_):Below w5.heap.size w5 _).trans hb6);have hK6:z6t [g] V w6:=hK5.under HB6.out;clear hb6)
   | (go_at_call 24;refine (HN.out es mv w5 _ HP1.out (by repeat (first | with_reducible exact HB6.out | with_reducible exact Below.refl _ _ | with_reducible refine Below.drew ?_))).mono ?_;rintro e w7 ⟨r,rfl,hk7,hp2⟩;have hK7:z6t [g] V w7:=(by repeat (first | with_reducible exact hK6 | with_reducible refine z6t.drew ?_):z6t [g] V _).trans hk7;have HP2:=hd_ hp2;clear hk7 hp2)
   | (go_at_call 12;refine (HP.out es mv r w7 _ HP2.out (by repeat (first | with_reducible exact Below.refl _ _ | with_reducible refine Below.drew ?_))).mono ?_;rintro e w8 ⟨pv,rfl,hb8,hp3⟩;have hK8:z6t [g] V w8:=(by repeat (first | with_reducible exact hK7 | with_reducible refine z6t.drew ?_):z6t [g] V _).under hb8;have HP3:=hd_ hp3;clear hb8 hp3))
 all_goals exact HQ.out _ _ _ _ _ _ _ _ _ _ _ _ _ _ _ _ _ (HX.out _ _ _ HP3.out (by repeat (first | with_reducible exact Below.refl _ _ | with_reducible refine Below.drew ?_)))
end Go.Proofs.YtegeboijhifmcaaGreatDoor
