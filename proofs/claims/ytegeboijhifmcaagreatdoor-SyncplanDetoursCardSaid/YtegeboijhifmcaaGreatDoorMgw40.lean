/- A part of the proof. -/
import Derived.Test.YtegeboijhifmcaaGreatDoorMgw38
set_option linter.unusedVariables false
set_option linter.unusedSimpArgs false
set_option maxHeartbeats 16000000
set_option maxRecDepth 100000
namespace Go.Proofs.YtegeboijhifmcaaGreatDoor
open Go.Proofs.Tryz
open Go.RowKit
theorem rcT9 (T:Code)(hT:Tryz.f93.body.bind (zhv 9)=some T)(P:Ending→World→Prop)(W:World)(A:Option Addr)(c:Nat)(es:List zd8)(hE:zdi W (.slice A es.length c) es)(hl:es.length≤32)
  (hR:∀ x∈es,∀ X,Below W.heap.size W X→Calls prog 138 #[x.val] X (zo0 X x.r.v x.r.1.rest))
  (hT16:∀ T',Tryz.f93.body.bind (zhv 16)=some T'→∀ W',Below W.heap.size W W'→∀(u1 u2 u3 u4 u5 u6 u7 u8 u9 gn gt gu gx gy gz gA gC gD gE gF gG gH gI gJ gK gL gM gN gO gP gQ gR gT gV gW gX gY gZ i6 i7 i8 ia ib ic ie ig ii ij ik il im io ip iq ir iu iv iw ix iy iz iA iB iC iD iE iF iG iH iI iJ iK iL iM iN iO iP iQ iR iS iT iU iV iW iX iY iZ j0 j1 j2 j5:Value),T'.wp prog (bodyPost prog Tryz.f93 P) ⟨#[.slice A es.length c,u1,u2,u3,u4,u5,u6,u7,u8,u9,gn,gt,gu,gx,gy,gz,gA,gC,gD,gE,gF,gG,gH,gI,gJ,gK,gL,gM,gN,gO,gP,gQ,gR,gT,gV,gW,gX,gY,gZ,i6,i7,i8,ia,ib,ic,ie,ig,ii,ij,ik,il,im,io,ip,iq,ir,iu,iv,iw,ix,iy,iz,iA,iB,iC,iD,iE,iF,iG,iH,iI,iJ,iK,iL,iM,iN,iO,iP,iQ,iR,iS,iT,iU,iV,iW,iX,iY,iZ,j0,j1,j2,j5],[]⟩ W')
  (u1 u2 u3 u4 u5 u6 u7 u8 u9 gn gt gu gx gy gz gA gC gD gE gF gG gH gI gJ gK gL gM gN gO gP gQ gR gT gV gW gX gY gZ i6 i7 i8 ia ib ic ie ig ii ij ik il im io ip iq ir iu iv iw ix iy iz iA iB iC iD iE iF iG iH iI iJ iK iL iM iN iO iP iQ iR iS iT iU iV iW iX iY iZ j0 j1 j2 j5:Value):
  T.wp prog (bodyPost prog Tryz.f93 P) ⟨#[.slice A es.length c,u1,u2,u3,u4,u5,u6,u7,u8,u9,gn,gt,gu,gx,gy,gz,gA,gC,gD,gE,gF,gG,gH,gI,gJ,gK,gL,gM,gN,gO,gP,gQ,gR,gT,gV,gW,gX,gY,gZ,i6,i7,i8,ia,ib,ic,ie,ig,ii,ij,ik,il,im,io,ip,iq,ir,iu,iv,iw,ix,iy,iz,iA,iB,iC,iD,iE,iF,iG,iH,iI,iJ,iK,iL,iM,iN,iO,iP,iQ,iR,iS,iT,iU,iV,iW,iX,iY,iZ,j0,j1,j2,j5],[]⟩ W:=by
 simp only[Tryz.f93,Option.bind_some,zhv,zhu] at hT
 simp at hT
 subst hT;have HE:=hd_ (fun X (hX:Below W.heap.size W X)=>hE.below hX);have HR:=hd_ hR;have HT:=hd_ hT16;clear hE hR hT16;go_wp2_with fail;go_loopw [42] (fun i wr=>∃ k:Nat,i=.int .i64 k∧k≤es.length∧Hid (Below W.heap.size W wr)) (fun i _=>es.length - (intOf i).toNat)
 case atStart=>exact⟨0,rfl,Nat.zero_le _,hd_ (Below.refl _ _)⟩
 case round =>
  obtain⟨k,rfl,hk,HI⟩:=hrel;by_cases hlt:k<es.length
  ·have HEX:=hd_ (HE.out wr HI.out);obtain⟨ad,rfl,hab,s0,s1,s2,s3,s4⟩:=HEX.out.at_ hlt;have HXI:=hd_ (HEX.out.2 es[k] (List.getElem_mem hlt));have HXR:=hd_ (HR.out es[k] (List.getElem_mem hlt));generalize es[k]=x at s0 s1 s2 s3 s4 HXI HXR;obtain⟨H,hc,hhv⟩:=HXI.out.holes;obtain⟨⟨pl,Al,cl⟩,⟨pr,Ar,cr⟩,hv,hs⟩:=x;change hv=.slice H hs.length hc at hhv;subst hhv;change wr.cell? _=some (.slice Al pl.parts.length cl) at s0;change wr.cell? _=some (.bool pl.rest) at s1;change wr.cell? _=some (.slice Ar pr.parts.length cr) at s2;change wr.cell? _=some (.bool pr.rest) at s3;change wr.cell? _=some (.slice H hs.length hc) at s4;have hX:Below wr.heap.size wr (wr.alloc (.cells #[.slice Al pl.parts.length cl,.bool pl.rest,.slice Ar pr.parts.length cr,.bool pr.rest,.slice H hs.length hc] 100)):=(Below.refl _ _).alloc (Nat.le_refl _) _;have HX:=hd_ (z0r HI.out hX);have HN:Hid (Blk (wr.alloc (.cells #[.slice Al pl.parts.length cl,.bool pl.rest,.slice Ar pr.parts.length cr,.bool pr.rest,.slice H hs.length hc] 100)) wr.heap.size 100 [.slice Al pl.parts.length cl,.bool pl.rest,.slice Ar pr.parts.length cr,.bool pr.rest,.slice H hs.length hc]):=hd_ (z0l wr _ _);have HLT:=hd_ hlt;clear hab hX;go_upto_region 12 with fail;generalize wr.alloc (.cells #[.slice Al pl.parts.length cl,.bool pl.rest,.slice Ar pr.parts.length cr,.bool pr.rest,.slice H hs.length hc] 100)=W4 at HX HN ⊢;generalize wr.heap.size=g7 at HN ⊢;clear s0 s1 s2 s3 s4;obtain⟨x0,x1,x2,x3,x4⟩:=(⟨HN.out.cell 0,HN.out.cell 1,HN.out.cell 2,HN.out.cell 3,HN.out.cell 4⟩:W4.cell? ⟨g7,0,none⟩=some (.slice Al pl.parts.length cl)∧W4.cell? ⟨g7,1,none⟩=some (.bool pl.rest)∧W4.cell? ⟨g7,2,none⟩=some (.slice Ar pr.parts.length cr)∧W4.cell? ⟨g7,3,none⟩=some (.bool pr.rest)∧W4.cell? ⟨g7,4,none⟩=some (.slice H hs.length hc));have HRC:Hid (Calls prog 138 #[.agg #[.slice Al pl.parts.length cl,.bool pl.rest,.slice Ar pr.parts.length cr,.bool pr.rest,.slice H hs.length hc]] W4 (zo0 W4 (.slice Ar pr.parts.length cr) pr.rest)):=hd_ (HXR.out W4 HX.out)
   go_wp2_with fail;refine HRC.out.mono ?_;rintro e w5 ⟨hb,H9,n9,c9,rfl⟩;dsimp only;have hX:Below w5.heap.size w5 (w5.alloc (.cells #[.slice Ar pr.parts.length cr,.bool pr.rest,.slice H9 n9 c9] 115)):=(Below.refl _ _).alloc (Nat.le_refl _) _;have HB:=hd_ (z0r HX.out (z0r hb hX));clear hb hX x0 x1 x2 x3 x4 HRC;go_wp2_with fail;go_roundw
   case rel=>exact⟨k+1,by go_num,by omega,HB⟩
   case measure=>simp [intOf];omega
  ·have hke:k=es.length:=by omega
   subst hke;have HB:=hd_ HI.out;have hge:¬((es.length:Int)<(es.length:Int)):=by omega
   rename ∀ a w,Code.wp _ (Code.seq (Code.seq (Code.region 16 _ _) _) _) _ a w→_=>hk7
   have HK7:=hd_ hk7;clear hk7 HI;go_wp2_with fail;exact HK7.out _ _ (HT.out _ (by kernel_rfl) wr HB.out _ _ _ _ _ _ _ _ _ _ _ _ _ _ _ _ _ _ _ _ _ _ _ _ _ _ _ _ _ _ _ _ _ _ _ _ _ _ _ _ _ _ _ _ _ _ _ _ _ _ _ _ _ _ _ _ _ _ _ _ _ _ _ _ _ _ _ _ _ _ _ _ _ _ _ _ _ _ _ _ _ _ _ _ _ _ _ _ _ _ _)
theorem zo6 (w:World)(A:Option Addr)(c:Nat)(es:List zd8)(P:Ending→World→Prop)(hE:zdi w (.slice A es.length c) es)(hl:es.length≤32)
  (hK:∀ x∈es,∀ X,Below w.heap.size w X→Calls prog 134 #[.agg #[.bool false,x.l.v,.bool x.l.1.rest,x.r.v,.bool x.r.1.rest]] X fun e w'=>e=.returned (.int .i64 0)∧Below X.heap.size X w')
  (hG:∀ x∈es,∀ X,Below w.heap.size w X→Calls prog 136 #[.agg #[x.l.v,.bool x.l.1.rest,x.hv]] X fun e w'=>e=.returned (.int .i64 0)∧Below X.heap.size X w')
  (hR:∀ x∈es,∀ X,Below w.heap.size w X→Calls prog 138 #[x.val] X (zo0 X x.r.v x.r.1.rest))
  (hT16:∀ T',Tryz.f93.body.bind (zhv 16)=some T'→∀ W',Below w.heap.size w W'→∀(u1 u2 u3 u4 u5 u6 u7 u8 u9 gn gt gu gx gy gz gA gC gD gE gF gG gH gI gJ gK gL gM gN gO gP gQ gR gT gV gW gX gY gZ i6 i7 i8 ia ib ic ie ig ii ij ik il im io ip iq ir iu iv iw ix iy iz iA iB iC iD iE iF iG iH iI iJ iK iL iM iN iO iP iQ iR iS iT iU iV iW iX iY iZ j0 j1 j2 j5:Value),T'.wp prog (bodyPost prog Tryz.f93 P) ⟨#[.slice A es.length c,u1,u2,u3,u4,u5,u6,u7,u8,u9,gn,gt,gu,gx,gy,gz,gA,gC,gD,gE,gF,gG,gH,gI,gJ,gK,gL,gM,gN,gO,gP,gQ,gR,gT,gV,gW,gX,gY,gZ,i6,i7,i8,ia,ib,ic,ie,ig,ii,ij,ik,il,im,io,ip,iq,ir,iu,iv,iw,ix,iy,iz,iA,iB,iC,iD,iE,iF,iG,iH,iI,iJ,iK,iL,iM,iN,iO,iP,iQ,iR,iS,iT,iU,iV,iW,iX,iY,iZ,j0,j1,j2,j5],[]⟩ W'):
  Calls prog 93 #[.slice A es.length c] w P:=by
 have HE:=hd_ (fun X (hX:Below w.heap.size w X)=>hE.below hX);have HR:=hd_ hR;have HK:=hd_ hK;have HG:=hd_ hG;have HT:=hd_ hT16;clear hE hR hT16 hK hG;go_enter func93,ntmps93;go_wp2_with fail;go_loopw [20] (fun i wr=>∃ k:Nat,i=.int .i64 k∧k≤es.length∧Hid (Below w.heap.size w wr)) (fun i _=>es.length - (intOf i).toNat)
 case atStart=>exact⟨0,rfl,Nat.zero_le _,hd_ (Below.refl _ _)⟩
 case round =>
  obtain⟨k,rfl,hk,HI⟩:=hrel;by_cases hlt:k<es.length
  ·have HEX:=hd_ (HE.out wr HI.out);obtain⟨ad,rfl,hab,s0,s1,s2,s3,s4⟩:=HEX.out.at_ hlt;have HXI:=hd_ (HEX.out.2 es[k] (List.getElem_mem hlt));have HXK:=hd_ (HK.out es[k] (List.getElem_mem hlt));have HXG:=hd_ (HG.out es[k] (List.getElem_mem hlt));generalize es[k]=x at s0 s1 s2 s3 s4 HXI HXK HXG;obtain⟨H,hc,hhv⟩:=HXI.out.holes;obtain⟨⟨pl,Al,cl⟩,⟨pr,Ar,cr⟩,hv,hs⟩:=x;change hv=.slice H hs.length hc at hhv;subst hhv;change wr.cell? _=some (.slice Al pl.parts.length cl) at s0;change wr.cell? _=some (.bool pl.rest) at s1;change wr.cell? _=some (.slice Ar pr.parts.length cr) at s2;change wr.cell? _=some (.bool pr.rest) at s3;change wr.cell? _=some (.slice H hs.length hc) at s4;have hX:Below wr.heap.size wr (wr.alloc (.cells #[.slice Al pl.parts.length cl,.bool pl.rest,.slice Ar pr.parts.length cr,.bool pr.rest,.slice H hs.length hc] 100)):=(Below.refl _ _).alloc (Nat.le_refl _) _;have HX:=hd_ (z0r HI.out hX);have HN:Hid (Blk (wr.alloc (.cells #[.slice Al pl.parts.length cl,.bool pl.rest,.slice Ar pr.parts.length cr,.bool pr.rest,.slice H hs.length hc] 100)) wr.heap.size 100 [.slice Al pl.parts.length cl,.bool pl.rest,.slice Ar pr.parts.length cr,.bool pr.rest,.slice H hs.length hc]):=hd_ (z0l wr _ _);clear hab hX;go_upto_region 4 with fail;generalize wr.alloc (.cells #[.slice Al pl.parts.length cl,.bool pl.rest,.slice Ar pr.parts.length cr,.bool pr.rest,.slice H hs.length hc] 100)=W4 at HX HN ⊢;generalize wr.heap.size=g7 at HN ⊢;clear s0 s1 s2 s3 s4;obtain⟨x0,x1,x2,x3,x4⟩:=(⟨HN.out.cell 0,HN.out.cell 1,HN.out.cell 2,HN.out.cell 3,HN.out.cell 4⟩:W4.cell? ⟨g7,0,none⟩=some (.slice Al pl.parts.length cl)∧W4.cell? ⟨g7,1,none⟩=some (.bool pl.rest)∧W4.cell? ⟨g7,2,none⟩=some (.slice Ar pr.parts.length cr)∧W4.cell? ⟨g7,3,none⟩=some (.bool pr.rest)∧W4.cell? ⟨g7,4,none⟩=some (.slice H hs.length hc));have HLI:=hd_ (znu Al Ar pl.parts.length pr.parts.length cl cr pl.rest pr.rest (.slice H hs.length hc) W4);go_wp2_with fail;refine HLI.out.mono ?_;rintro e w5 ⟨rfl,hb5⟩;dsimp only;have HB5:=hd_ (z0r HX.out hb5)
   have HN5:=hd_ (HN.out.below hb5 HN.out.lt);have HC5:Hid (Calls prog 134 #[.agg #[.bool false,.slice Al pl.parts.length cl,.bool pl.rest,.slice Ar pr.parts.length cr,.bool pr.rest]] w5 fun e w'=>e=.returned (.int .i64 0)∧Below w5.heap.size w5 w'):=hd_ (HXK.out w5 HB5.out);clear hb5 x0 x1 x2 x3 x4 HLI;go_wp2_with fail;refine HC5.out.mono ?_;rintro e w6 ⟨rfl,hb6⟩;dsimp only;have HB6:=hd_ (z0r HB5.out hb6);have HN6:=hd_ (HN5.out.below hb6 HN5.out.lt);clear hb6 HC5;obtain⟨x0,x1,x2,x3,x4⟩:=(⟨HN6.out.cell 0,HN6.out.cell 1,HN6.out.cell 2,HN6.out.cell 3,HN6.out.cell 4⟩:w6.cell? ⟨g7,0,none⟩=some (.slice Al pl.parts.length cl)∧w6.cell? ⟨g7,1,none⟩=some (.bool pl.rest)∧w6.cell? ⟨g7,2,none⟩=some (.slice Ar pr.parts.length cr)∧w6.cell? ⟨g7,3,none⟩=some (.bool pr.rest)∧w6.cell? ⟨g7,4,none⟩=some (.slice H hs.length hc));have HLE:=hd_ (znv Al H pl.parts.length cl hs.length hc pl.rest pr.rest (.slice Ar pr.parts.length cr) w6);go_wp2_with fail;refine HLE.out.mono ?_;rintro e w7 ⟨rfl,hb7⟩;dsimp only;have HB7:=hd_ (z0r HB6.out hb7);have HC7:Hid (Calls prog 136 #[.agg #[.slice Al pl.parts.length cl,.bool pl.rest,.slice H hs.length hc]] w7 fun e w'=>e=.returned (.int .i64 0)∧Below w7.heap.size w7 w'):=hd_ (HXG.out w7 HB7.out);clear hb7 x0 x1 x2 x3 x4 HLE;go_wp2_with fail;refine HC7.out.mono ?_;rintro e w8 ⟨rfl,hb8⟩;dsimp only;have HB8:=hd_ (z0r HB7.out hb8);clear hb8 HC7;go_wp2_with fail;go_roundw
   case rel=>exact⟨k+1,by go_num,by omega,HB8⟩
   case measure=>simp [intOf];omega
  ·have hke:k=es.length:=by omega
   subst hke;have HB:=hd_ HI.out;have hge:¬((es.length:Int)<(es.length:Int)):=by omega
   have h32:¬((32:Int)<(es.length:Int)):=by omega
   have HT9:=hd_ (fun(T:Code) hT=>rcT9 T hT P wr A c es (HE.out wr HB.out) hl (fun x hx X hX=>HR.out x hx X (z0r HB.out hX)) (fun T' hT' W' hW'=>HT.out T' hT' W' (z0r HB.out hW')));clear HI;go_upto_region 7 with fail;rename ∀ a w,Code.wp _ (Code.seq (Code.seq (Code.region 9 _ _) _) _) _ a w→_=>hk7
   have HK7:=hd_ hk7;clear hk7;go_wp2_with fail;exact HK7.out _ _ (HT9.out _ (by kernel_rfl) _ _ _ _ _ _ _ _ _ _ _ _ _ _ _ _ _ _ _ _ _ _ _ _ _ _ _ _ _ _ _ _ _ _ _ _ _ _ _ _ _ _ _ _ _ _ _ _ _ _ _ _ _ _ _ _ _ _ _ _ _ _ _ _ _ _ _ _ _ _ _ _ _ _ _ _ _ _ _ _ _ _ _ _ _ _ _ _ _ _ _)
theorem rcT16 (T:Code)(hT:Tryz.f93.body.bind (zhv 16)=some T)(P:Ending→World→Prop)(W:World)(A:Option Addr)(c:Nat)(es:List zd8)(hE:zdi W (.slice A es.length c) es)(hl:es.length≤32)
  (hap:∀(i j:Nat) (hi:i<es.length) (hj:j<i),(zai es[i].l.1 (es[j]'(Nat.lt_trans hj hi)).l.1=none∧zai es[i].r.1 (es[j]'(Nat.lt_trans hj hi)).r.1=none)∧znr es[i].l.1 (es[j]'(Nat.lt_trans hj hi)).l.1∧znr es[i].r.1 (es[j]'(Nat.lt_trans hj hi)).r.1)
  (hR:∀ x∈es,∀ X,Below W.heap.size W X→Calls prog 138 #[x.val] X (zo0 X x.r.v x.r.1.rest))
  (hP:∀ w',Below W.heap.size W w'→P (.returned (.tuple #[.int .i64 0,.int .i64 0])) w')
  (u1 u2 u3 u4 u5 u6 u7 u8 u9 gn gt gu gx gy gz gA gC gD gE gF gG gH gI gJ gK gL gM gN gO gP gQ gR gT gV gW gX gY gZ i6 i7 i8 ia ib ic ie ig ii ij ik il im io ip iq ir iu iv iw ix iy iz iA iB iC iD iE iF iG iH iI iJ iK iL iM iN iO iP iQ iR iS iT iU iV iW iX iY iZ j0 j1 j2 j5:Value):
  T.wp prog (bodyPost prog Tryz.f93 P) ⟨#[.slice A es.length c,u1,u2,u3,u4,u5,u6,u7,u8,u9,gn,gt,gu,gx,gy,gz,gA,gC,gD,gE,gF,gG,gH,gI,gJ,gK,gL,gM,gN,gO,gP,gQ,gR,gT,gV,gW,gX,gY,gZ,i6,i7,i8,ia,ib,ic,ie,ig,ii,ij,ik,il,im,io,ip,iq,ir,iu,iv,iw,ix,iy,iz,iA,iB,iC,iD,iE,iF,iG,iH,iI,iJ,iK,iL,iM,iN,iO,iP,iQ,iR,iS,iT,iU,iV,iW,iX,iY,iZ,j0,j1,j2,j5],[]⟩ W:=by
 simp only[Tryz.f93,Option.bind_some,zhv,zhu] at hT
 simp at hT
 subst hT;have HE:=hd_ (fun X (hX:Below W.heap.size W X)=>hE.below hX);have HR:=hd_ hR;have HAP:=hd_ hap;have HP:=hd_ hP;have hcc:es.length≤c:=by obtain⟨A',c',e,h1,-⟩:=id hE.1;injection e with e1 e2 e3;omega
 clear hE hR hap hP;go_wp2_with fail;go_loopw [56] (fun i wr=>∃ k:Nat,i=.int .i64 k∧k≤es.length∧Hid (Below W.heap.size W wr)) (fun i _=>es.length - (intOf i).toNat)
 case atStart=>exact⟨0,rfl,Nat.zero_le _,hd_ (Below.refl _ _)⟩
 case round =>
  obtain⟨k,rfl,hk,HI⟩:=hrel;by_cases hlt:k<es.length
  ·have HEX:=hd_ (HE.out wr HI.out);obtain⟨ad,rfl,hab,s0,s1,s2,s3,s4⟩:=HEX.out.at_ hlt;have HXI:=hd_ (HEX.out.2 es[k] (List.getElem_mem hlt));have HXR:=hd_ (HR.out es[k] (List.getElem_mem hlt));have HAK:=hd_ (fun j (hj:j<k)=>HAP.out k j hlt hj);generalize es[k]=x at s0 s1 s2 s3 s4 HXI HXR HAK;obtain⟨H,hc,hhv⟩:=HXI.out.holes;obtain⟨⟨pl,Al,cl⟩,⟨pr,Ar,cr⟩,hv,hs⟩:=x;change hv=.slice H hs.length hc at hhv;subst hhv;change wr.cell? _=some (.slice Al pl.parts.length cl) at s0;change wr.cell? _=some (.bool pl.rest) at s1;change wr.cell? _=some (.slice Ar pr.parts.length cr) at s2;change wr.cell? _=some (.bool pr.rest) at s3;change wr.cell? _=some (.slice H hs.length hc) at s4;have hX:Below wr.heap.size wr (wr.alloc (.cells #[.slice Al pl.parts.length cl,.bool pl.rest,.slice Ar pr.parts.length cr,.bool pr.rest,.slice H hs.length hc] 100)):=(Below.refl _ _).alloc (Nat.le_refl _) _;have HX:=hd_ (z0r HI.out hX);have HN:Hid (Blk _ _ 100 [.slice Al pl.parts.length cl,.bool pl.rest,.slice Ar pr.parts.length cr,.bool pr.rest,.slice H hs.length hc]):=hd_ (z0l wr _ _);have HXP:=hd_ (HXI.out.below hX);have hpre:=fun X=>zdl (P:=prog) (t:=27) (n:=es.length) (c:=c) (k:=k) (A:=some ad) underlying27 zdm (by omega) X
   have HPR:=hd_ hpre;have HLT:=hd_ hlt;clear hab hX hpre;go_upto_region 19 with fail;generalize wr.alloc (.cells #[.slice Al pl.parts.length cl,.bool pl.rest,.slice Ar pr.parts.length cr,.bool pr.rest,.slice H hs.length hc] 100)=W4 at HX HN HXP ⊢;generalize wr.heap.size=g11 at HN ⊢;clear s0 s1 s2 s3 s4;obtain⟨x0,x1,x2,x3,x4⟩:=(⟨HN.out.cell 0,HN.out.cell 1,HN.out.cell 2,HN.out.cell 3,HN.out.cell 4⟩:W4.cell? ⟨g11,0,none⟩=some (.slice Al pl.parts.length cl)∧W4.cell? ⟨g11,1,none⟩=some (.bool pl.rest)∧W4.cell? ⟨g11,2,none⟩=some (.slice Ar pr.parts.length cr)∧W4.cell? ⟨g11,3,none⟩=some (.bool pr.rest)∧W4.cell? ⟨g11,4,none⟩=some (.slice H hs.length hc));have HRC:Hid (Calls prog 138 #[.agg #[.slice Al pl.parts.length cl,.bool pl.rest,.slice Ar pr.parts.length cr,.bool pr.rest,.slice H hs.length hc]] W4 (zo0 W4 (.slice Ar pr.parts.length cr) pr.rest)):=hd_ (HXR.out W4 HX.out);go_wp2_with fail;refine HRC.out.mono ?_;rintro e w5 ⟨hb,H9,n9,c9,rfl⟩;dsimp only;have hX5:Below w5.heap.size w5 (w5.alloc (.cells #[.slice Ar pr.parts.length cr,.bool pr.rest,.slice H9 n9 c9] 115)):=(Below.refl _ _).alloc (Nat.le_refl _) _;have hb6:=z0r hb hX5;have HB6:=hd_ (z0r HX.out hb6);have HE6:=hd_ (HN.out.below hb6 HN.out.lt);have HX6:=hd_ (HXP.out.below hb6);have HG6:Hid (Blk _ _ 115 [.slice Ar pr.parts.length cr,.bool pr.rest,.slice H9 n9 c9]):=hd_ (z0l w5 _ _);clear hb hX5 hb6 x0 x1 x2 x3 x4 HRC HN HXP;go_upto_region 20 with fail;generalize w5.alloc (.cells #[.slice Ar pr.parts.length cr,.bool pr.rest,.slice H9 n9 c9] 115)=W6 at HB6 HE6 HX6 HG6 ⊢;generalize w5.heap.size=g12 at HG6 ⊢;have hpre:=HPR.out;go_wp2_with fail;clear hpre;go_loopw [70] (fun i wr=>∃ j:Nat,i=.int .i64 j∧j≤k∧Hid (Below W6.heap.size W6 wr)) (fun i _=>k - (intOf i).toNat)
   case atStart=>exact⟨0,rfl,Nat.zero_le _,hd_ (Below.refl _ _)⟩
   case round =>
    obtain⟨j,rfl,hj,HJ⟩:=hrel;by_cases hlj:j<k
    ·have hje:j<es.length:=by have:=HLT.out;omega
     have HEY:=hd_ (HE.out wr (z0r HB6.out HJ.out));obtain⟨ad2,had,hab,s0,s1,s2,s3,s4⟩:=HEY.out.at_ hje;injection had with had
     subst had;have HYI:=hd_ (HEY.out.2 es[j] (List.getElem_mem hje));have HYR:=hd_ (HR.out es[j] (List.getElem_mem hje));have HAJ:=hd_ (HAK.out j hlj);generalize es[j]=y at s0 s1 s2 s3 s4 HYI HYR HAJ;obtain⟨Hy,hcy,hhv⟩:=HYI.out.holes;obtain⟨⟨ql,Bl,dl⟩,⟨qr,Br,dr⟩,hv,hsy⟩:=y;change hv=.slice Hy hsy.length hcy at hhv;subst hhv;change wr.cell? _=some (.slice Bl ql.parts.length dl) at s0;change wr.cell? _=some (.bool ql.rest) at s1;change wr.cell? _=some (.slice Br qr.parts.length dr) at s2;change wr.cell? _=some (.bool qr.rest) at s3;change wr.cell? _=some (.slice Hy hsy.length hcy) at s4;have hX:Below wr.heap.size wr (wr.alloc (.cells #[.slice Bl ql.parts.length dl,.bool ql.rest,.slice Br qr.parts.length dr,.bool qr.rest,.slice Hy hsy.length hcy] 100)):=(Below.refl _ _).alloc (Nat.le_refl _) _;have HJ7:=hd_ (z0r HJ.out hX);have HN7:Hid (Blk _ _ 100 [.slice Bl ql.parts.length dl,.bool ql.rest,.slice Br qr.parts.length dr,.bool qr.rest,.slice Hy hsy.length hcy]):=hd_ (z0l wr _ _);have HYP:=hd_ (HYI.out.below hX);have HLJ:=hd_ hlj;clear hab hX;go_upto_region 23 with fail;generalize wr.alloc (.cells #[.slice Bl ql.parts.length dl,.bool ql.rest,.slice Br qr.parts.length dr,.bool qr.rest,.slice Hy hsy.length hcy] 100)=W7 at HJ7 HN7 HYP ⊢;generalize wr.heap.size=g15 at HN7 ⊢;clear s0 s1 s2 s3 s4;obtain⟨x0,x1,x2,x3,x4⟩:=(⟨HN7.out.cell 0,HN7.out.cell 1,HN7.out.cell 2,HN7.out.cell 3,HN7.out.cell 4⟩:W7.cell? ⟨g15,0,none⟩=some (.slice Bl ql.parts.length dl)∧W7.cell? ⟨g15,1,none⟩=some (.bool ql.rest)∧W7.cell? ⟨g15,2,none⟩=some (.slice Br qr.parts.length dr)∧W7.cell? ⟨g15,3,none⟩=some (.bool qr.rest)∧W7.cell? ⟨g15,4,none⟩=some (.slice Hy hsy.length hcy));have HRC:Hid (Calls prog 138 #[.agg #[.slice Bl ql.parts.length dl,.bool ql.rest,.slice Br qr.parts.length dr,.bool qr.rest,.slice Hy hsy.length hcy]] W7 (zo0 W7 (.slice Br qr.parts.length dr) qr.rest)):=hd_ (HYR.out W7 (z0r HB6.out HJ7.out));go_wp2_with fail;refine HRC.out.mono ?_;rintro e w8 ⟨hb,H8,n8,c8,rfl⟩;dsimp only;have hX8:Below w8.heap.size w8 (w8.alloc (.cells #[.slice Br qr.parts.length dr,.bool qr.rest,.slice H8 n8 c8] 115)):=(Below.refl _ _).alloc (Nat.le_refl _) _
     have hb9:=z0r hb hX8;have HJ9:=hd_ (z0r HJ7.out hb9);have h15:=HN7.out.below hb9 HN7.out.lt;have hy9:=HYP.out.below hb9;have h16:Blk _ _ 115 [.slice Br qr.parts.length dr,.bool qr.rest,.slice H8 n8 c8]:=z0l w8 _ _;have HC9:=hd_ (And.intro h15 (And.intro hy9 h16));clear hb hX8 hb9 x0 x1 x2 x3 x4 HRC HN7 HYP h15 hy9 h16;go_upto_region 24 with fail;generalize w8.alloc (.cells #[.slice Br qr.parts.length dr,.bool qr.rest,.slice H8 n8 c8] 115)=W9 at HJ9 HC9 ⊢;generalize w8.heap.size=g16 at HC9 ⊢;have hx9:=HX6.out.below HJ9.out;refine rcR24 _ (by kernel_rfl) _ W9 g11 g12 g15 g16 pl ql pr qr Al Bl Ar Br H Hy H9 H8 cl dl cr dr hs.length hsy.length n9 n8 hc hcy c9 c8 (HE6.out.below HJ9.out HE6.out.lt) HC9.out.1 (HG6.out.below HJ9.out HG6.out.lt) HC9.out.2.2 hx9.l HC9.out.2.1.l hx9.r HC9.out.2.1.r HAJ.out.1.1 HAJ.out.1.2 HAJ.out.2.1 HAJ.out.2.2 ?_
     intro fN fO fP fQ fR fS fT fU fV w' hb';have HBN:=hd_ (z0r HJ9.out hb');clear hb' hx9;go_wp2_with fail;go_roundw
     case rel=>exact⟨j+1,by go_num,by have:=HLJ.out;omega,HBN⟩
     case measure=>have:=HLJ.out;simp [intOf];omega
    ·have hke:j=k:=by omega
     subst hke;have HBE:=hd_ (z0r HB6.out HJ.out);have hge:¬((j:Int)<(j:Int)):=by omega
     go_wp2_with fail;go_roundw
     case rel=>exact⟨j+1,by go_num,by have:=HLT.out;omega,HBE⟩
     case measure=>have:=HLT.out;simp [intOf];omega
  ·have hke:k=es.length:=by omega
   subst hke;have HB:=hd_ HI.out;have hge:¬((es.length:Int)<(es.length:Int)):=by omega
   go_wp2_with fail;exact HP.out _ HB.out
theorem zoe {l r:Pat}(h:za8 l r=0):z7e l=0∧z7e r=0∧za2 l=za2 r∧l.rest=r.rest:=by
 unfold za8 at h;by_cases h1:z7e l=0
 ·by_cases h2:z7e r=0
  ·by_cases h3:za2 l=za2 r∧l.rest=r.rest
   ·exact⟨h1,h2,h3⟩
   ·rw[if_neg (by simp [h1]),if_neg (by simp [h2]),if_pos (by
     by_cases h4:za2 l=za2 r
     ·exact .inr fun h5=>h3 ⟨h4,h5⟩
     ·exact .inl h4)] at h
    cases h
  ·rw[if_neg (by simp [h1]),if_pos h2] at h;cases h
 ·rw[if_pos h1] at h;cases h
def symB (p q:Pat):Bool:=(List.range (zah p q).parts.length).all fun k=>z9s (((zag p q).parts[k]?).getD z2l) (((zah p q).parts[k]?).getD z2l) || !z9s (((zah p q).parts[k]?).getD z2l) (((zag p q).parts[k]?).getD z2l)
theorem zof {p q:Pat}(h:symB p q=true):znr p q:=by
 unfold symB at h;intro k hx hy hw;have:=List.all_eq_true.1 h k (List.mem_range.2 hy);rw[List.getElem?_eq_getElem hx,List.getElem?_eq_getElem hy] at this;simp only[Option.getD_some] at this
 rw[hw] at this;simpa using this
def oneB (x:EntP):Bool:=match x.hs with
 | []=>true
 | [h]=>match zai x.l h with
  | none=>false
  | some m=>symB x.l h && symB x.r (zcv x.l x.r m)
 | _=>false
def refB (es:List EntP):Bool:=(es.all oneB) && (List.range es.length).all fun i=>(List.range i).all fun j=>match es[i]?,es[j]? with
 | some x,some y=>symB x.l y.l && symB x.r y.r
 | _,_=>false
theorem zog:∀ k<8,refB (zg3 k)=true:=by decide +kernel
structure zoh (es:List zd8):Prop where
 map:zdj es
 one:∀ x∈es,x.hs=[]∨∃ q m,x.hs=[q]∧zcw x.l.1 x.r.1 q.1 m∧znr x.l.1 q.1∧znr x.r.1 (zcv x.l.1 x.r.1 m)
 sym:∀(i j:Nat) (hi:i<es.length) (hj:j<i),znr es[i].l.1 (es[j]'(Nat.lt_trans hj hi)).l.1∧znr es[i].r.1 (es[j]'(Nat.lt_trans hj hi)).r.1
theorem zoi {es:List zd8}{k:Nat}(hk:k<8)(h:es.map zd8.pl=zg3 k):zoh es:=by
 have hM:=(zgb hk h).1.map;have hB:=zog k hk;rw[← h] at hB;unfold refB at hB;simp only[Bool.and_eq_true,List.all_eq_true,List.mem_range,List.length_map,List.mem_map,forall_exists_index,and_imp,forall_apply_eq_imp_iff₂] at hB
 obtain⟨h1,h2⟩:=hB;refine⟨hM,fun x hx=>?_,fun i j hi hj=>?_⟩
 ·have ho:=h1 x hx;have hn:=(hM.ok x hx).nar;obtain⟨xl,xr,hv,hs⟩:=x;match hs,ho,hn with
  | [],_,_=>exact .inl rfl
  | [q],ho,hn =>
   obtain⟨m,hm⟩:=hn q (List.mem_cons_self ..);refine .inr ⟨q,m,rfl,hm,?_⟩;unfold oneB zd8.pl at ho;simp only[List.map_cons,List.map_nil] at ho
   have e:zai xl.1 q.1=some m:=hm.meet;rw[e] at ho;simp only[Bool.and_eq_true] at ho
   exact⟨zof ho.1,zof ho.2⟩
  | _ :: _ :: _,ho,_=>exact absurd ho (by simp [oneB,zd8.pl])
 ·have:=h2 i hi j hj;rw[List.getElem?_map,List.getElem?_map,List.getElem?_eq_getElem hi,List.getElem?_eq_getElem (Nat.lt_trans hj hi)] at this;simp only[Option.map_some,Bool.and_eq_true] at this
  exact⟨zof this.1,zof this.2⟩
theorem zoj (es:List zd8)(v:Value)(w:World)(hE:zdi w v es)(hM:zoh es):
  Calls prog 93 #[v] w fun e w'=>e=.returned (.tuple #[.int .i64 0,.int .i64 0])∧Below w.heap.size w w':=by
 obtain⟨A,c,rfl,-⟩:=id hE.1;have hR:∀ x∈es,∀ X,Below w.heap.size w X→Calls prog 138 #[x.val] X (zo0 X x.r.v x.r.1.rest):=by
  intro x hx X hX;have hI:=(hE.2 x hx).below hX;have hO:=hM.one x hx;obtain⟨H,hc,hhv⟩:=hI.holes;obtain⟨⟨pl,Al,cl⟩,⟨pr,Ar,cr⟩,hv,hs⟩:=x;change hv=.slice H hs.length hc at hhv;subst hhv;rcases hO with ho | ⟨q,m,ho,hn,hs1,hs2⟩
  ·change hs=[] at ho;subst ho;exact zo1 Al Ar H pl.parts.length pr.parts.length cl cr hc pl.rest pr.rest X
  ·change hs=[q] at ho;subst ho;obtain⟨ad,rfl,hab,s0,s1⟩:=zd2.at_ (k:=0) hI.h (by simp)
   have hq:=hI.h.2 q (List.mem_cons_self ..);obtain⟨q,B,b⟩:=q;have hcc:1≤hc:=by
    obtain⟨A',c',e,h1,-⟩:=hI.h.1;injection e with e1 e2 e3
    subst e3;exact h1
   have e0:ad.add (0 * 2)=ad:=by unfold Addr.add;simp
   rw[e0] at s0 s1;exact zo2 pl pr q m Al B Ar cl b cr ad hc X hI.l hI.r hq hn hs1 hs2 rfl hcc s0 s1
 refine zo6 w A c es _ hE hM.map.len (fun x hx X hX=>?_) (fun x hx X hX=>?_) hR (fun T hT W hW=>rcT16 T hT _ W A c es (hE.below hW) hM.map.len (fun i j hi hj=>⟨hM.map.apart i j hi hj,hM.sym i j hi hj⟩) (fun x hx X hX=>hR x hx X (z0r hW hX)) (fun w' hb=>⟨rfl,z0r hW hb⟩))
 ·have hI:=(hE.2 x hx).below hX;obtain⟨h1,h2,h3,h4⟩:=zoe (hM.map.ok x hx).rule;obtain⟨⟨pl,Al,cl⟩,⟨pr,Ar,cr⟩,hv,hs⟩:=x;exact znj false pl pr Al Ar cl cr X hI.l hI.r h1 h2 h3 h4
 ·have hI:=(hE.2 x hx).below hX;have hg:=(hM.map.ok x hx).reg;obtain⟨H,hc,hhv⟩:=hI.holes;obtain⟨⟨pl,Al,cl⟩,⟨pr,Ar,cr⟩,hv,hs⟩:=x;change hv=.slice H hs.length hc at hhv;subst hhv;have:=znt pl hs Al H cl hc X hI.l hI.h (Nat.le_trans hI.n (by decide))
  rw[show zd3 pl hs=0 from hg] at this;exact this
theorem zok (es:List zd8)(v:Value)(p:ByteArray)(w:World)(he:Env w)(hE:zdi w v es)(hM:zoh es)(hF:zdu es p)(hz:p.size≤1000000):
  Calls prog 95 #[v,.string p] w (zc3 w (zdt es p)):=by
 refine zo5 es v p w he hE hM.map.len hz (zoj es v w hE hM) fun x hx X hX=>?_;have hI:=(hE.2 x hx).below hX;obtain⟨h1,h2,h3,h4⟩:=zoe (hM.map.ok x hx).rule;have hf:=hF x hx;obtain⟨⟨pl,Al,cl⟩,⟨pr,Ar,cr⟩,hv,hs⟩:=x;exact znk false pl pr p Al Ar cl cr X (he.below hX) hz hI.l hI.r h1 h2 h3 h4 hf (fun Y caps cv hY hc hfo=>zod pr caps Ar cr cv Y ((he.below hX).below hY) (hI.r.below hY) hc hfo)
theorem zon {D:List Rev}{f:ByteArray→Option ByteArray}{m:Int}{p:ByteArray}{n:Nat}(h:zmr D n):
  (decide (0<(rAt D p m).num)=false→zfj D f m p=none)∧(decide (0<(rAt D p m).num)=true→(f p=none→zfj D f m p=none)∧(z2v (rAt D p m).act=false→zfj D f m p=none)∧∀ s,f p=some s→z2v (rAt D p m).act=true→zfj D f m p=some ⟨p,(rAt D p m).num,s⟩):=by
 obtain⟨h1,h2⟩:=dp_at h p m;unfold zfj;cases hg:z30 D p (fun v=>decide (v.chg≤m)) with
 | none =>
  rw[hg] at h2;refine⟨fun _=>rfl,fun h3=>?_⟩;rw[h3] at h2;cases h2
 | some r =>
  rw[hg] at h1 h2;have h1:r=rAt D p m:=h1;subst h1;refine⟨fun h3=>(by rw[h3] at h2;cases h2),fun _=>⟨fun e=>(by simp only;rw[e];split <;> rfl),fun e=>(by simp only;rw[if_neg (by rw[e];decide)]),fun s e1 e2=>(by simp only;rw[if_pos e2,e1];rfl)⟩⟩
def RwPost (w:World)(l:List Hav)(e:Ending)(w':World):Prop:=∃ v,e=.returned (.tuple #[v,.int .i64 0])∧w'.ownsRow w.heap.size 44 3 v l.length (l.flatMap Hav.cells)∧Below w.heap.size w w'
theorem zoo (D:List Rev)(n:Nat)(es:List zd8)(m:Int)(dv dr mv:Value)(w:World)(he:Env w)(hR:z45 w dv D)(hE:zdi w mv es)(hD:zmr D n)(hl:D.length≤1000)(hM:zoh es)(hS:zfs es)(hf:zfi (zdt es)):
  Calls prog 60 #[.agg #[dv,dr],mv,.int .i64 m] w (RwPost w (zfk D (zdt es) m)):=by
 obtain⟨Ar,cr,rfl,-⟩:=id hR;have hBox:=z0l w [.slice Ar D.length cr,dr] 26;have hA:Below w.heap.size w (w.alloc (.cells #[.slice Ar D.length cr,dr] 26)):=(Below.refl _ _).alloc (Nat.le_refl _) _;have HCK:=hd_ (fun X (hX:Below w.heap.size w X)=>zoj es mv X (hE.below hX) hM);have HAT:=hd_ (fun X (hX:Below w.heap.size w X) p=>zh7 D p m (.slice Ar D.length cr) dr X (hR.below hX) (by omega))
 have HFW:=hd_ (fun X (hX:Below w.heap.size w X) p (hp:p∈zff)=>zok es mv p X (he.below hX) (hE.below hX) hM (hS.fits p hp) (zft p hp).2);have HEV:=hd_ (fun X (hX:Below w.heap.size w X)=>he.below hX);have HRV:=hd_ (fun X (hX:Below w.heap.size w X)=>hR.below hX);have HSM:=hd_ hS.small;have HDP:=hd_ hD;have HEND:=hd_ (fun out (h:zly D (zdt es) m D.length out)=>zm1 h (zmt hD) hf);have HA:=hd_ hA;have HBX:=hd_ hBox;generalize zfk D (zdt es) m=WL at HEND ⊢;clear he hR hE hS hM hD hf hA hBox;go_enter func60,ntmps60;go_upto_region 1 with fail;generalize w.alloc (.cells #[.slice Ar D.length cr,dr] 26)=W1 at HA HBX ⊢;have HC1:=hd_ (HCK.out W1 HA.out);go_wp2_with fail;refine HC1.out.mono ?_;rintro e w2 ⟨rfl,hb⟩;dsimp only;have HB2:=hd_ (z0r HA.out hb);have HBX2:=hd_ (HBX.out.below hb HBX.out.lt);clear hb HCK HC1;have d0:w2.cell? ⟨w.heap.size,0,none⟩=some (.slice Ar D.length cr):=HBX2.out.cell 0;go_wp2_with fail;go_loopw [10,11] (fun lv i wr=>∃(k:Nat) (out:List Hav) (A:Option Addr) (c:Nat),lv=.slice A out.length c∧i=.int .i64 k∧k≤D.length∧Hid (zly D (zdt es) m k out∧Below w2.heap.size w2 wr∧wr.ownsRow w2.heap.size 44 3 (.slice A out.length c) out.length (out.flatMap Hav.cells))) (fun _ i _=>D.length - (intOf i).toNat)
 case atStart=>exact⟨0,[],none,0,rfl,rfl,Nat.zero_le _,hd_ ⟨refW_0 _ _ _,Below.refl _ _,World.ownsRow_nil _ _ _ _⟩⟩
 case round =>
  obtain⟨k,out,A,c,rfl,rfl,hk,HI⟩:=hrel;clear d0;have HBD:=hd_ (HBX2.out.below HI.out.2.1 HBX2.out.lt);have d0:wr.cell? ⟨w.heap.size,0,none⟩=some (.slice Ar D.length cr):=HBD.out.cell 0;have d1:wr.cell? ⟨w.heap.size,1,none⟩=some dr:=HBD.out.cell 1;have HBW:=hd_ (z0r HB2.out HI.out.2.1);by_cases hlt:k<D.length
  ·obtain⟨ad,rfl,hab,hc⟩:=(HRV.out wr HBW.out).at_ hlt;have HNO:=hd_ (fun h=>refW_no HI.out.1 hlt h);have HPT:=hd_ (fun x h=>zm0 (x:=x) HI.out.1 hlt HDP.out.six h);have H6:=hd_ (HDP.out.six _ (List.getElem_mem hlt));generalize D[k]=r at hc HNO HPT H6;obtain⟨c0,-⟩:=hc;have HT1:=hd_ (HAT.out wr HBW.out r.path);have HWC:=hd_ (zon (f:=zdt es) (m:=m) (p:=r.path) HDP.out);have HFP:=hd_ (fun X (hX:Below w.heap.size w X)=>HFW.out X hX r.path H6.out);have HSP:=hd_ (HSM.out r.path H6.out);have HLT:=hd_ hlt;generalize rAt D r.path m=v at HT1 HWC;generalize hbo:decide (0<v.num)=bo at HT1 HWC;generalize zdt es r.path=o at HFP HSP HWC;clear hab hbo hlt;go_wp2_with fail;refine HT1.out.mono ?_;rintro e w3 ⟨rfl,hb⟩;dsimp only;have HV:=hd_ (z0l w3 [.string v.path,.int .i64 v.num,.int .i64 v.chg,.int .i64 v.act,.int .i64 v.ty.base,.bool v.ty.k,.bool v.ty.l,.bool v.ty.x,.int .u64 v.sum,.int .i64 v.size,.string v.frm,.int .i64 v.fnum] 66);have hb4:=z0r hb ((Below.refl w3.heap.size w3).alloc (Nat.le_refl _) (.cells #[.string v.path,.int .i64 v.num,.int .i64 v.chg,.int .i64 v.act,.int .i64 v.ty.base,.bool v.ty.k,.bool v.ty.l,.bool v.ty.x,.int .u64 v.sum,.int .i64 v.size,.string v.frm,.int .i64 v.fnum] 66));have HB4:=hd_ (z0r HBW.out hb4);have HL4:=hd_ (z0r HI.out.2.1 hb4);have HO4:=hd_ (z0n HI.out.2.2 hb4);have HRF:=hd_ HI.out.1;clear hb hb4 c0 d0 d1 HT1 HI;go_upto_region 10 with fail;generalize w3.alloc (.cells #[.string v.path,.int .i64 v.num,.int .i64 v.chg,.int .i64 v.act,.int .i64 v.ty.base,.bool v.ty.k,.bool v.ty.l,.bool v.ty.x,.int .u64 v.sum,.int .i64 v.size,.string v.frm,.int .i64 v.fnum] 66)=W4 at HV HB4 HL4 HO4 ⊢;generalize w3.heap.size=g4 at HV ⊢;have HFC:=hd_ (HFP.out W4 HB4.out);go_wp2_with fail;refine HFC.out.mono ?_;rintro e w5 ⟨rfl,hb⟩;dsimp only;have HV5:=hd_ (HV.out.below hb HV.out.lt);have HB5:=hd_ (z0r HB4.out hb);have HL5:=hd_ (z0r HL4.out hb);have HO5:=hd_ (z0n HO4.out hb);clear hb HFC HV;cases bo with
   | false =>
    have HN:=hd_ (HNO.out (HWC.out.1 rfl));go_wp2_with fail;go_roundw
    case rel=>exact⟨k+1,out,_,_,rfl,by go_num,HLT.out,hd_ ⟨HN.out,HL5.out,HO5.out⟩⟩
    case measure=>have:=HLT.out;simp [intOf];omega
   | true =>
    have HW2:=hd_ (HWC.out.2 rfl);clear HWC;cases o with
    | none =>
     have HN:=hd_ (HNO.out (HW2.out.1 rfl));go_wp2_with fail;go_roundw
     case rel=>exact⟨k+1,out,_,_,rfl,by go_num,HLT.out,hd_ ⟨HN.out,HL5.out,HO5.out⟩⟩
     case measure=>have:=HLT.out;simp [intOf];omega
    | some s =>
     have HGO:=hd_ (zhw v w5);obtain⟨y0,y1,y2,y3,y4,y5,y6,y7,y8,y9,y10,y11⟩:=z7z HV5.out;have hs200:=HSP.out s rfl;cases hlv:z2v v.act with
     | false =>
      have HN:=hd_ (HNO.out (HW2.out.2.1 hlv));rw[hlv] at HGO;clear hlv hs200;go_wp2_with fail;refine HGO.out.mono ?_;rintro e w6 ⟨rfl,hb⟩;dsimp only;have HL6:=hd_ (z0r HL5.out hb);have HO6:=hd_ (z0n HO5.out hb);clear hb y0 y1 y2 y3 y4 y5 y6 y7 y8 y9 y10 y11;go_wp2_with fail;go_roundw
      case rel=>exact⟨k+1,out,_,_,rfl,by go_num,HLT.out,hd_ ⟨HN.out,HL6.out,HO6.out⟩⟩
      case measure=>have:=HLT.out;simp [intOf];omega
     | true =>
      have HN:=hd_ (HPT.out _ (HW2.out.2.2 s rfl hlv));rw[hlv] at HGO;clear hlv;go_wp2_with fail;refine HGO.out.mono ?_;rintro e w6 ⟨rfl,hb⟩;dsimp only;have HV6:=hd_ (HV5.out.below hb HV5.out.lt);have HB6:=hd_ (z0r HB5.out hb);have HL6:=hd_ (z0r HL5.out hb);have HO6:=hd_ (z0n HO5.out hb);have HPU:Hid (Calls prog 97 #[.slice A out.length c,.agg #[.string r.path,.int .i64 v.num,.string s]] w6 (zol w6 (zlr out ⟨r.path,v.num,s⟩))):=hd_ (zom out _ ⟨r.path,v.num,s⟩ w6 (HEV.out w6 HB6.out) (Row.of_own HO6.out) (fun x hx=>zft _ (HRF.out.2.1 x hx)) (zft _ H6.out).1 (zft _ H6.out).2 (by have:=zm2 HRF.out;omega))
      have y1:=HV6.out.cell 1;have z200:¬(200<(s.size:Int)):=by omega
      clear hb y0 y2 y3 y4 y5 y6 y7 y8 y9 y10 y11;go_wp2_with fail;refine HPU.out.mono ?_;rintro e w7 ⟨v7,rfl,hown,hb⟩;dsimp only;obtain⟨A7,c7,rfl⟩:=z0o hown;have HL7:=hd_ (z0r HL6.out hb);have HO7:=hd_ (z4p hown HL6.out.size);clear hb hown y1 z200;go_wp2_with fail;go_roundw
      case rel=>exact⟨k+1,zlr out ⟨r.path,v.num,s⟩,A7,c7,rfl,by go_num,HLT.out,hd_ ⟨HN.out,HL7.out,HO7.out⟩⟩
      case measure=>have:=HLT.out;simp [intOf];omega
  ·have hke:k=D.length:=by omega
   subst hke;have hge:¬((D.length:Int)<(D.length:Int)):=by omega
   have HB:=hd_ HBW.out;have HO:=hd_ (z4p HI.out.2.2 HB2.out.size);have e:=HEND.out out HI.out.1;subst e;go_wp2_with fail;go_ret2;exact⟨_,rfl,HO.out,HB.out⟩
theorem Env.keptT {w w':World}{U g m:Nat}(he:Env w)(hT:zgf w U g m)(hK:z6t [g] w w'):Env w':=by
 obtain⟨x,hx⟩:=he;obtain⟨l,A,c,a,h1,-⟩:=hT;refine⟨x,(World.cell?_of_block (hK.block _ (z03 hx) ?_)).trans hx⟩;intro e;rw[List.mem_singleton] at e;have h2:=h1.cell 0;rw[← e,hx] at h2;cases h2
def HvPost (w:World)(U g m:Nat)(e:Ending)(w':World):Prop:=∃(v:Value) (l:List Hav),e=.returned v∧z4b w' v l∧zf0 l∧(l.length≤6∧∀ x∈l,x.path∈zff)∧zgf w' U g m∧z6t [g] w w'∧∀ x,v.ownBlock=some x→w.heap.size≤x
structure WlOk (WL:List Hav):Prop where
 ok:zf0 WL
 num:∀ x∈WL,1≤x.num∧x.num≤100000
 len:WL.length≤6
 six:∀ x∈WL,x.path∈zff
theorem wl_ok {D:List Rev}{n k:Nat}{es:List zd8}{j:Int}(hD:zmr D n)(hn:n≤1000)(hk:k<8)(he:es.map zd8.pl=zg3 k):WlOk (zfk D (zdt es) j):=by
 have hf:zfi (zdt es):=(zfr k).of_congr (zgb hk he).2;refine⟨zfn (zmt hD) hf,fun x hx=>?_,Nat.le_trans (List.length_filterMap_le _ _) (by decide),zfo⟩
 obtain⟨p,hp,e⟩:=List.mem_filterMap.1 hx;obtain⟨-,-,r,hr,-,e4,-⟩:=zfm e;have h1:=zmt hD r hr;have h2:=zmw hD r hr;omega
theorem zou (U g m n:Nat)(D:List Rev)(dv dr:Value)(w:World)(he:Env w)(hT:zgf w U g m)(hU:U≤w.heap.size)(hm:m≤100000)(hR:z45 w dv D)(hD:zmr D n)(hn:n≤1000)(htop:0≤zli D∧zli D≤100000):
  Calls prog 31 #[.pointer (some ⟨g,0,none⟩),.agg #[dv,dr]] w (HvPost w U g (m+26)):=by
 obtain⟨Ar,cr,rfl,-⟩:=id hR;have hg:=hT.ltU;have hBx:=z0l w [.slice Ar D.length cr,dr] 26;have hA:Below w.heap.size w (w.alloc (.cells #[.slice Ar D.length cr,dr] 26)):=(Below.refl _ _).alloc (Nat.le_refl _) _;have HGU:Hid (g<w.heap.size∧U≤w.heap.size):=hd_ ⟨by omega,hU⟩
 have HDL:Hid (D.length≤1000):=hd_ (by have:=hD.len;omega)
 have HD:=hd_ hD;have HN:=hd_ hn;go_enter func31,ntmps31;go_upto_region 1 with fail;generalize w.alloc (.cells #[.slice Ar D.length cr,dr] 26)=W1 at hBx hA ⊢;have HE1:=hd_ (he.below hA);have HT1:=hd_ (hT.below hA);have HR1:=hd_ (z45.below hR hA);have HA:=hd_ (z6t.below (S:=[g]) hA);have hns:=hT.nosb;have HC:Hid (∀ w',z6t [g] W1 w'→w'.cell? ⟨w.heap.size,0,none⟩=some (.slice Ar D.length cr)∧w'.cell? ⟨w.heap.size,1,none⟩=some dr):=hd_ fun w' hK=>by
  have:=hK.blk hBx (by simp;have:=HGU.out;omega)
  exact⟨this.cell 0,this.cell 1⟩
 have HMA:=hd_ (fun X (h:zgf X U g m)=>zng U g m X h (by omega))
 have HTO:=hd_ (fun X (h:z6t [g] W1 X)=>zlk D (.slice Ar D.length cr) dr X (z45.keptN HR1.out h HT1.out.nosb) (by have:=HDL.out;omega))
 have HNX:=hd_ (fun X (h:zgf X U g (m+1))=>zgg U g (m+1) (zli D+2) X h (by omega) (by omega))
 have HWA:=hd_ (fun k (es:List zd8) v (j:Int) X (hk:k<8) (hes:es.map zd8.pl=zg3 k) (hE:zdi X v es) (h:z6t [g] W1 X)=>zoo D n es j (.slice Ar D.length cr) dr v X (HE1.out.keptT HT1.out h) (z45.keptN HR1.out h HT1.out.nosb) hE HD.out HDL.out (zoi hk hes) (zgb hk hes).1 ((zfr k).of_congr (zgb hk hes).2));have q2:IntKind.i64.wrap (zli D+2)=zli D+2:=by rw[IntKind.wrap_i64];omega
 clear he hT hU hR hD hn hBx hA hns hg htop;go_cut [5] (fun v wx=>Hid (∃(WL:List Hav) (B:Nat),WlOk WL∧wx.ownsRow B 44 3 v WL.length (WL.flatMap Hav.cells)∧w.heap.size≤B∧B≤wx.heap.size∧zgf wx U g (m+2)∧z6t [g] w wx))
 case first =>
  go_region_held3 (fun w'=>z6t [g] W1 w'∧w'.cell? ⟨w.heap.size,0,none⟩=some (.slice Ar D.length cr)∧w'.cell? ⟨w.heap.size,1,none⟩=some dr)
   ((refine z3n ?_ (HC.out _);first | with_reducible assumption | with_reducible exact z6t.below (Below.refl _ _) | with_reducible exact z6t.below (Below.refl _ _).drew))
   (first
    | (go_at_call 25;(with_reducible refine (HMA.out _ (by first | with_reducible exact HT1.out | with_reducible exact HT1.out.below (Below.refl _ _).drew)).mono ?_);rintro e' w2 ⟨k,es,v,rfl,hk8,hes,hE2,hT2,hK2⟩;have hS2:z6t [g] W1 w2:=by first | with_reducible exact hK2 | exact (z6t.below (Below.refl _ _).drew).trans hK2)
    | (go_at_call 26;(with_reducible refine (HTO.out _ hS2).mono ?_);rintro e' w3 ⟨rfl,hb3⟩;have hS3:z6t [g] W1 w3:=hS2.under hb3;have hT3:=hT2.below hb3)
    | (go_at_call 24;(with_reducible refine (HNX.out _ hT3).mono ?_);rintro e' w4 ⟨j,rfl,hj,hT4,hK4⟩;have hS4:=hS3.trans hK4)
    | (go_at_call 60;(with_reducible refine (HWA.out k es v j w4 hk8 hes (hE2.keptN ((z6t.below hb3).trans hK4) hT2.nosb) hS4).mono ?_);rintro e' w5 ⟨v5,rfl,hown,hb5⟩;have hS5:z6t [g] W1 w5:=hS4.under hb5))
  all_goals
   go_wp2_with fail;go_meet
   exact hd_ ⟨zfk D (zdt es) j,w4.heap.size,wl_ok HD.out HN.out hk8 hes,hown,Nat.le_trans HA.out.size hS4.size,hb5.size,hT4.below hb5,HA.out.trans hS5⟩
 case rest =>
  obtain⟨WL,B,hW,hown,hB,hB2,hT,hK⟩:=hcut.out;obtain⟨A5,c5,rfl⟩:=z0o hown;have hl6:=hW.len;have HW:=hd_ hW;have HI0:Hid (HlSt w wc U g (m+2) B wc.heap.size WL 0 [] (.slice A5 WL.length c5) none 0):=hd_ ⟨hK,hT,⟨_,hown,fun j _=>rfl⟩,World.ownsRow_nil _ _ _ _,hB,fun x e=>(hown.lt x e).2,HGU.out.1,HGU.out.2,Nat.le_refl _⟩;have hI0sz:=hK.size;clear hcut hW hown hB hB2 hT hK HE1 HT1 HR1 HC HMA HTO HNX HWA q2;have HGU0:Hid (w.heap.size≤wc.heap.size):=hd_ hI0sz;generalize wc.heap.size=B2 at HI0 HGU0;go_wp2_with fail;go_loopw [7,8] (fun ov i wr=>∃(k:Nat) (out:List Hav) (A2:Option Addr) (c2:Nat),ov=.slice A2 out.length c2∧i=.int .i64 k∧k≤WL.length∧Hid (HvSt WL k out∧∃ m',m'≤m+2+4 * k∧HlSt w wr U g m' B B2 WL k out (.slice A5 WL.length c5) A2 c2)) (fun _ i _=>WL.length - (intOf i).toNat)
  case atStart=>exact⟨0,[],none,0,rfl,rfl,Nat.zero_le _,hd_ ⟨hv_0 WL,m+2,by omega,HI0.out⟩⟩
  case round =>
   obtain⟨k,out,A2,c2,rfl,rfl,hk,HI⟩:=hrel;clear HI0;by_cases hlt:k<WL.length
   ·obtain⟨hHS,m',hm',hHL⟩:=HI.out;obtain⟨gv,c,elv,hHR⟩:=hHL.into hlt;injection elv with e1 e2 e3
    subst e1 e3;have HXE:=hd_ (fun y (hy:zlg WL[k] y) (hn:∀ x∈out,x.loc≠y.loc)=>hv_put hHS HW.out.ok hlt hy hn);have HXL:Hid (z3q (WL[k]).loc=true∧1≤(WL[k]).num∧(WL[k]).num≤100000):=hd_ ⟨(zf1 (HW.out.ok.ok _ (List.getElem_mem hlt))).2.1,HW.out.num _ (List.getElem_mem hlt)⟩;have HHS:=hd_ (And.intro (hv_skip hHS) (Nat.le_trans hHS.len hk));have HLT:=hd_ hlt;have HR:=hd_ hHR;have HM:=hd_ hm';have hm2:m'≤100030:=by omega
    have HX:=hd_ (zgg U g m' 6 wr hHR.tape (by omega) (by omega))
    generalize WL[k]=x at HR HXE HXL;clear hHS hHL hHR hm' e2 HI;go_wp2_with fail;refine HX.out.mono ?_;rintro e w2 ⟨k1,rfl,hk1,hT2,hK2⟩;dsimp only;have HR2:=hd_ (HR.out.next hK2 hT2);clear hk1 hT2 hK2 HX HR;by_cases h1:k1=0
    ·have q1:(k1 == 0)=true:=by simpa using h1
     have HB:=hd_ HR2.out.back;clear h1;go_wp2_with fail;go_roundw
     case rel=>exact⟨k+1,out,A2,c2,rfl,by go_num,by have:=HLT.out;omega,hd_ ⟨HHS.out.1,m'+1,by have:=HM.out;omega,HB.out⟩⟩
     case measure=>have:=HLT.out;simp [intOf];omega
    ·have q1:(k1 == 0)=false:=by simpa using h1
     have HX:=hd_ (zgg U g (m'+1) 6 w2 HR2.out.tape (by omega) (by omega))
     clear h1;go_wp2_with fail;refine HX.out.mono ?_;rintro e w3 ⟨k2,rfl,hk2,hT3,hK3⟩;dsimp only;have HR3:=hd_ (HR2.out.next hK3 hT3);obtain⟨b,q2⟩:∃ b,(k2 == 0)=b:=⟨_,rfl⟩;clear hk2 hT3 hK3 HX HR2 q1;go_upto_if 35 with fail
     clear q2;go_cut [] (fun wx=>Hid (∃ y,zmx w wx U g (m'+1+1) B B2 WL k out gv c5 A2 c2 y∧y.path=x.path∧y.loc=x.loc∧1≤y.num∧y.num≤x.num+1))
     case first =>
      obtain⟨⟨y0,y1,y2⟩,f1,f2⟩:=HR3.out.cells;cases b with
      | true =>
       have q3:IntKind.i64.wrap (x.num+1)=x.num+1:=by rw[IntKind.wrap_i64];have:=HXL.out;omega
       have hzl:(k:Int)<(WL.length:Int):=by have:=HLT.out;omega
       have HS:=hd_ (HR3.out.set_ 1 (.int .i64 (x.num+1)) ⟨x.path,x.num+1,x.loc⟩ (by omega) rfl)
       go_wp2_with fail;go_meet
       exact hd_ ⟨⟨x.path,x.num+1,x.loc⟩,HS.out,rfl,rfl,by have:=HXL.out;show 1≤x.num+1;omega,Int.le_refl _⟩
      | false =>
       go_wp2_with fail;go_meet
       exact hd_ ⟨x,HR3.out,rfl,rfl,HXL.out.2.1,by omega⟩
     case rest =>
      obtain⟨y,hy,hy1,hy2,hy3⟩:=hcut.out;have HY:=hd_ hy;have HYF:=hd_ (And.intro hy1 (And.intro hy2 hy3));have HLO:=hd_ (zlm wc);clear hcut hy hy1 hy2 hy3 HR3;go_wp2_with fail;refine HLO.out.mono ?_;rintro e w4 ⟨rfl,hw4⟩;dsimp only;have hb4:Below wc.heap.size wc w4:=hw4 ▸ (Below.refl _ _).alloc (Nat.le_refl _) _;have HBL:Hid (Blk w4 wc.heap.size 9 (zle.map .string)):=hd_ (hw4 ▸ z0l wc _ _);have HGL:Hid (wc.heap.size∉[g]):=hd_ (by have:=HY.out.kept.size;have:=HY.out.gU;simp;omega)
      have HR4:=hd_ (HY.out.under hb4);have HX:=hd_ (zgg U g (m'+1+1) 8 w4 HR4.out.tape (by omega) (by omega))
      clear hw4 hb4 HLO HY;generalize wc.heap.size=gl at HBL HGL ⊢;go_wp2_with fail;refine HX.out.mono ?_;rintro e w5 ⟨k3,rfl,hk3,hT5,hK5⟩;dsimp only;obtain⟨j3,rfl⟩:∃ j:Nat,k3=j:=⟨k3.toNat,by have:=hk3.1;omega⟩
      have hj8:j3<8:=by have:=hk3.2.1 (by omega);omega
      have HR5:=hd_ (HR4.out.next hK5 hT5);have z0:w5.cell? ⟨gl,j3,none⟩=some (.string (zle[j3]'hj8)):=((hK5.blk HBL.out HGL.out).cell j3).trans (by rw[List.getElem?_map,List.getElem?_eq_getElem (show j3<zle.length from hj8)];rfl)
      have HQ:Hid (z3q (zle[j3]'hj8)=true):=hd_ (zlf _ (List.getElem_mem _));generalize zle[j3]'hj8=q at z0 HQ;have hz8:(j3:Int)<8:=by omega
      have HX6:=hd_ (zgg U g (m'+1+1+1) 6 w5 HR5.out.tape (by omega) (by omega))
      clear hk3 hT5 hK5 HX HR4 HBL HGL hj8;go_wp2_with fail;refine HX6.out.mono ?_;rintro e w3 ⟨k2,rfl,hk2,hT3,hK3⟩;dsimp only;have HR3:=hd_ (HR5.out.next hK3 hT3);obtain⟨b,q2⟩:∃ b,(k2 == 0)=b:=⟨_,rfl⟩;clear hk2 hT3 hK3 HX6 HR5 z0 hz8;go_upto_if 51 with fail
      clear q2;go_cut [] (fun wx=>Hid (∃ y,zmx w wx U g (m'+1+1+1+1) B B2 WL k out gv c5 A2 c2 y∧zlg x y))
      case first =>
       obtain⟨⟨y0,y1,y2⟩,f1,f2⟩:=HR3.out.cells;cases b with
       | true =>
        have hzl:(k:Int)<(WL.length:Int):=by have:=HLT.out;omega
        have HS:=hd_ (HR3.out.set_ 2 (.string q) ⟨y.path,y.num,q⟩ (by omega) rfl)
        go_wp2_with fail;go_meet
        exact hd_ ⟨⟨y.path,y.num,q⟩,HS.out,HYF.out.1,HQ.out,HYF.out.2.2⟩
       | false =>
        go_wp2_with fail;go_meet
        exact hd_ ⟨y,HR3.out,HYF.out.1,by rw[HYF.out.2.1];exact HXL.out.1,HYF.out.2.2⟩
      case rest =>
       obtain⟨y',hy,hy1⟩:=hcut.out;have HY:=hd_ hy;have HTO:=hd_ hy1;clear hcut hy hy1 HR3 HYF HQ;have HAT:Hid (Calls prog 61 #[.slice A2 out.length c2,.string y'.loc] wc fun e w'=>∃ zz:Hav,e=.returned (.tuple #[.agg #[.string zz.path,.int .i64 zz.num,.string zz.loc],.bool (z5y Hav.loc out y'.loc).isSome])∧Below wc.heap.size wc w'):=hd_ ((zor out _ y'.loc wc (Row.of_own HY.out.out) (by have:=HHS.out.2;omega)).mono fun e w' h=>⟨_,h⟩)
       obtain⟨⟨y0,y1,y2⟩,-,-⟩:=HY.out.cells;have hzl:(k:Int)<(WL.length:Int):=by have:=HLT.out;omega
       cases ho:z5y Hav.loc out y'.loc with
       | none =>
        rw[ho] at HAT;have HNL:=hd_ (z62.1 ho);clear ho;go_wp2_with fail;refine HAT.out.mono ?_;rintro e w8 ⟨zz,rfl,hb⟩;dsimp only;have HR9:=hd_ ((HY.out.under hb).under ((Below.refl w8.heap.size w8).alloc (Nat.le_refl _) (.cells #[.string zz.path,.int .i64 zz.num,.string zz.loc] 44)));clear hb y0 y1 y2 HAT HY;go_upto_region 13 with fail;generalize w8.alloc (.cells #[.string zz.path,.int .i64 zz.num,.string zz.loc] 44)=W9 at HR9 ⊢;generalize w8.heap.size=g9;obtain⟨⟨y0,y1,y2⟩,-,-⟩:=HR9.out.cells;have HRA:=hd_ (HR9.out.under ((Below.refl W9.heap.size W9).alloc (Nat.le_refl _) (.cells #[.string y'.path,.int .i64 y'.num,.string y'.loc] 44)));have hrow:=z0i W9 [.string y'.path,.int .i64 y'.num,.string y'.loc] 44 3 1 rfl (by unfold maxLen;omega) W9.heap.size rfl
        have hol:out.length≤6:=by have:=HHS.out.2;omega
        go_wp2_with (at_builtin;refine z0j rfl rfl z54 HRA.out.out rfl hrow rfl (by simp [Value.oneCell']) (by omega) (by unfold maxLen;omega) HRA.out.b2 ?_;intro A' c' w6 hown hgr hob)
        have HN:=hd_ (HRA.out.push hown hgr);have HV:=hd_ (HXE.out y' HTO.out HNL.out);clear hown hgr hob hrow y0 y1 y2;go_wp2_with fail;go_roundw
        case rel=>exact⟨k+1,out++[y'],A',c',by simp,by go_num,by have:=HLT.out;omega,hd_ ⟨HV.out,m'+1+1+1+1,by have:=HM.out;omega,HN.out⟩⟩
        case measure=>have:=HLT.out;simp [intOf];omega
       | some hz =>
        rw[ho] at HAT;clear ho;go_wp2_with fail;refine HAT.out.mono ?_;rintro e w8 ⟨zz,rfl,hb⟩;dsimp only;have HR9:=hd_ ((HY.out.under hb).under ((Below.refl w8.heap.size w8).alloc (Nat.le_refl _) (.cells #[.string zz.path,.int .i64 zz.num,.string zz.loc] 44))).back;clear hb y0 y1 y2 HAT HY;go_wp2_with fail;go_roundw
        case rel=>exact⟨k+1,out,A2,c2,rfl,by go_num,by have:=HLT.out;omega,hd_ ⟨HHS.out.1,m'+1+1+1+1,by have:=HM.out;omega,HR9.out⟩⟩
        case measure=>have:=HLT.out;simp [intOf];omega
   ·have hke:k=WL.length:=by omega
    obtain⟨hHS,m',hm',hHL⟩:=HI.out;have HF:Hid (HvPost w U g (m+26) (.returned (.slice A2 out.length c2)) wr):=hd_ ⟨_,out,rfl,Row.of_own hHL.out,hv_end hHS,⟨by have:=hHS.len;omega,fun x hx=>by obtain⟨j,hj,-,e⟩:=hHS.of x hx;rw[e];exact HW.out.six _ (List.getElem_mem hj)⟩,hHL.tape.mono (by omega),hHL.kept,fun x e=>Nat.le_trans HGU0.out (hHL.out.lt x e).1⟩
    clear hHS hHL HI;subst hke;go_wp2_with fail;go_ret;exact HF.out
end Go.Proofs.YtegeboijhifmcaaGreatDoor
