/- A part of the proof. -/
import Derived.Test.YtegeboijhifmcaaGreatDoorMgw38
import Derived.Test.YtegeboijhifmcaaGreatDoorMgw32
set_option linter.unusedVariables false
set_option linter.unusedSimpArgs false
set_option maxHeartbeats 16000000
set_option maxRecDepth 100000
namespace Go.Proofs.YtegeboijhifmcaaGreatDoor
open Go.Proofs.Tryz
open Go.RowKit
open Go.Sort (grow)
def ChPost (w wr:World)(U g gw m:Nat)(D:List Rev)(dv dr cv:Value)(n:Nat)(num:Int)(e:Ending)(w':World):Prop:=∃(ev:Value) (es:List Edt) (cv':Value) (l':List Cnk),e=.returned (.agg #[.int .i64 num,.string ⟨#[]⟩,.string ⟨#[]⟩,ev,.slice none 0 0])∧z47 w' ev es∧EdK D 6 es∧WsB w w' U g gw m D dv dr cv' l'∧l'.length≤n+6∧Frm wr w' g gw cv cv'
theorem edtElem:z0e prog 93 90 12 96:=z0f underlying93 (z:=z2n.val) (by kernel_rfl) rfl (by decide)
theorem chT10 (T:Code)(hT:Tryz.f59.body.bind (zhv 10)=some T){w we W3:World}{U g gw m g6 g7 gp B n0:Nat}{D:List Rev}{dr cv:Value}{l:List Cnk}{Ar:Option Addr}{cr:Nat}{num a c:Int}(hm:m≤80000)(hD:D.length≤1000)(hl:l.length=n0)(hn0:n0≤50000)
  (hac:a=-1∧c=-1∨(0≤a∧a<6)∧0≤c∧c<6) (hS:zpf w we W3 U g gw m D (.slice Ar D.length cr) dr cv cv l g6 g7 gp B num [] (.slice none 0 0))
  (u3 u4 u5 gt gu gx gy gz gA gC gD gE gF gG gH gI gJ gK gL gM gN gO gP gQ gR gT gV gW gX gY gZ i6 i7 i8 ia ib ic ie ig ii ij ik il im io ip iq ir iu iv iw ix iy iz iA iB iC iD iE iF iG iH iI iJ iK iL iM iN iO iP iQ iR iS iT iU iV iW iX iY iZ j0 j1 j2 j5 j6 j7 j8 j9 jb jd je jf bw bz bA bB bD bE bF bG bH bI bJ bK bL bM bN bO bP bQ bT bU bV bW bX bY bZ ca cj ck cn cx cy cz cA cB cD cE cG cH cI cJ cM cN cO cP cQ cT cU cW cZ da db dc dd de df dg dh di dj dm du dw dz dA dB dC dD dE dF dG dH dI dJ dK dL dM dN dO dP dQ dR dS dT dU dV dW dX dY dZ ec:Value):
  T.wp prog (bodyPost prog Tryz.f59 (ChPost w we U g gw (m+67) D (.slice Ar D.length cr) dr cv n0 num)) ⟨#[.pointer (some ⟨gw,0,none⟩),.pointer (some ⟨g,0,none⟩),.int .i64 num,u3,u4,u5,.pointer (some ⟨g6,0,none⟩),.pointer (some ⟨g7,0,none⟩),.slice (some ⟨gp,0,none⟩) 6 6,.int .i64 a,.int .i64 c,gt,gu,gx,gy,gz,gA,gC,gD,gE,gF,gG,gH,gI,gJ,gK,gL,gM,gN,gO,gP,gQ,gR,gT,gV,gW,gX,gY,gZ,i6,i7,i8,ia,ib,ic,ie,ig,ii,ij,ik,il,im,io,ip,iq,ir,iu,iv,iw,ix,iy,iz,iA,iB,iC,iD,iE,iF,iG,iH,iI,iJ,iK,iL,iM,iN,iO,iP,iQ,iR,iS,iT,iU,iV,iW,iX,iY,iZ,j0,j1,j2,j5,j6,j7,j8,j9,jb,jd,je,jf,bw,bz,bA,bB,bD,bE,bF,bG,bH,bI,bJ,bK,bL,bM,bN,bO,bP,bQ,bT,bU,bV,bW,bX,bY,bZ,ca,cj,ck,cn,cx,cy,cz,cA,cB,cD,cE,cG,cH,cI,cJ,cM,cN,cO,cP,cQ,cT,cU,cW,cZ,da,db,dc,dd,de,df,dg,dh,di,dj,dm,du,dw,dz,dA,dB,dC,dD,dE,dF,dG,dH,dI,dJ,dK,dL,dM,dN,dO,dP,dQ,dR,dS,dT,dU,dV,dW,dX,dY,dZ,ec],[]⟩ W3:=by
 simp only[Tryz.f59,Option.bind_some,zhv,zhu] at hT
 simp at hT
 subst hT;have HL:Hid (∀(p:ByteArray) X,z45 X (.slice Ar D.length cr) D→Calls prog 89 #[.agg #[.slice Ar D.length cr,dr],.string p] X fun e w'=>e=.returned (.tuple #[.bool (zi0 D p),.int .i64 (zec (zgs D p)).num])∧Below X.heap.size X w'):=hd_ fun p X hX=>zi2 D p _ dr X hX (by omega)
 have HLA:Hid (∀(p:ByteArray) X,z45 X (.slice Ar D.length cr) D→Calls prog 90 #[.agg #[.slice Ar D.length cr,dr],.string p] X (zh0 X (zgs D p))):=hd_ fun p X hX=>zh1 D p _ dr X hX (by omega)
 have HAC:=hd_ hac;have HI0:Hid (∃ m' cv' l' es ev,m'≤m+11 * 0∧l'.length≤n0+0∧EdK D 0 es∧zpf w we W3 U g gw m' D (.slice Ar D.length cr) dr cv cv' l' g6 g7 gp B num es ev):=hd_ ⟨m,cv,l,[],_,by omega,by omega,edK_0 D,hS⟩
 clear hac hS hl;go_wp2_with fail;go_loopw [15] (fun i wx=>∃ k:Nat,i=.int .i64 k∧k≤6∧Hid (∃ m' cv' l' es ev,m'≤m+11 * k∧l'.length≤n0+k∧EdK D k es∧zpf w we wx U g gw m' D (.slice Ar D.length cr) dr cv cv' l' g6 g7 gp B num es ev)) (fun i _=>6 - (intOf i).toNat)
 case atStart=>exact⟨0,rfl,Nat.zero_le _,HI0⟩
 case round =>
  obtain⟨k,rfl,hk,HI⟩:=hrel;clear HI0;by_cases hlt:k<6
  ·obtain⟨m',cv',l',es,ev,hm',hl',hEK,hST⟩:=HI.out;have HS:=hd_ hST;have HB:=hd_ (And.intro hm' (And.intro hl' hEK));have HLT:=hd_ hlt;have k6:=hlt;have hmb:m'≤80100:=by omega
   clear HI hm' hl' hEK hST;have fs:wr.cell? ⟨gp,k,none⟩=some (.string (zff[k]'(show k<zff.length from k6))):=(HS.out.bp.cell k).trans (by rw[List.getElem?_map,List.getElem?_eq_getElem (show k<zff.length from k6)];rfl)
   have fc:=HL.out (zff[k]'(show k<zff.length from k6));have HPP:Hid (zff[k]'(show k<zff.length from k6)=zff[k]'(show k<zff.length from k6)):=hd_ rfl;generalize hpp:zff[k]'(show k<zff.length from k6)=p at fs fc;have HPE:=hd_ hpp;clear hpp HPP;have HNU:Hid (∃ q,(zec (zgs D p)).num=q):=hd_ ⟨_,rfl⟩;generalize zi0 D p=fb at fc;generalize hnn:(zec (zgs D p)).num=fn at fc;have HNN:=hd_ hnn;clear hnn HNU;have cL:∀ d os,Calls prog 89 #[.agg #[.slice Ar D.length cr,dr],.string p] (grow (redrawn wr d) os) fun e w''=>e=.returned (.tuple #[.bool fb,.int .i64 fn])∧∃ p:Regrown,w''=grow (redrawn wr p.d) p.os:=fun d os=>Calls.regrown_of (fc _ (HS.out.ws.revs.below (below_regrown wr d os)));have x0:=cell_regrown (show wr.cell? ⟨gw,0,none⟩=some (.slice Ar D.length cr) from HS.out.ws.box.cell 0);have x1:=cell_regrown (show wr.cell? ⟨gw,1,none⟩=some dr from HS.out.ws.box.cell 1);have x2:=cell_regrown fs;have qz:(k:Int)<6:=by omega
   clear fs fc;go_upto_region 13 with fail;refine wp_region_quiet_below (by kernel_rfl) (by kernel_rfl) ?_
   repeat (first | go_big_quiet_step (exact cL _ _) | quiet_step (exact cL _ _))
   refine wpQuiet_nil ?_;intro _ hw9;obtain⟨⟨dq,osq⟩,hw9⟩:=hw9;subst hw9;have HS7:=hd_ (HS.out.under (below_regrown wr dq osq));clear cL x0 x1 x2 qz;generalize grow (redrawn wr dq) osq=w7 at HS7 ⊢;have HC:Hid (∀ w',Below w7.heap.size w7 w'→w'.cell? ⟨gw,0,none⟩=some (.slice Ar D.length cr)∧w'.cell? ⟨gw,1,none⟩=some dr∧w'.cell? ⟨gp,k,none⟩=some (.string p)):=hd_ fun w' hb=>⟨(HS7.out.under hb).ws.box.cell 0,(HS7.out.under hb).ws.box.cell 1,((HS7.out.under hb).bp.cell k).trans (by rw[List.getElem?_map,List.getElem?_eq_getElem (show k<zff.length from k6),HPE.out];rfl)⟩
   have HR7:=hd_ HS7.out.ws.revs;have HLP:=HLA.out p;unfold zh0 at HLP;generalize zec (zgs D p)=v at HLP;generalize (zgs D p).isSome=bo at HLP;have qz:(k:Int)<6:=by omega
   go_upto_region 14 with fail;refine chR14 _ (by kernel_rfl) _ w7 gw gp k D.length cr Ar dr p v bo HC.out qz (fun X hX=>HLP X (z45.below HR7.out hX)) ?_
   intro fS fT fU fV fW fX fY fZ ga gb gf gg tb g18 w8 hb18 hge18 hbel;have HS8:=hd_ (HS7.out.under hbel);have H18:=hd_ hb18;have HG18:Hid (B≤g18):=hd_ (Nat.le_trans HS7.out.ord.2.2.2.2 hge18);clear HLP HR7 hb18 hge18 hbel HC HS7;have s8:w8.cell? ⟨gp,k,none⟩=some (.string p):=(HS8.out.bp.cell k).trans (by rw[List.getElem?_map,List.getElem?_eq_getElem (show k<zff.length from k6),HPE.out];rfl)
   have hal:Below w8.heap.size w8 (w8.alloc (.cells #[.string p,.int .i64 0,.int .i64 0,.bool false,.bool false,.bool false,.int .u64 0,.int .i64 0,.int .i64 fn,.string ⟨#[]⟩,.int .i64 0,.int .i64 0] 90)):=(Below.refl _ _).alloc (Nat.le_refl _) _;have HS9:=hd_ (HS8.out.under hal);have H189:=hd_ (H18.out.below hal H18.out.lt);have H20:Hid (Blk _ _ 90 [.string p,.int .i64 0,.int .i64 0,.bool false,.bool false,.bool false,.int .u64 0,.int .i64 0,.int .i64 fn,.string ⟨#[]⟩,.int .i64 0,.int .i64 0]):=hd_ (z0l w8 _ _);have HO:Hid (B≤w8.heap.size∧w8.heap.size≠g18∧cv'.ownBlock≠some w8.heap.size∧ev.ownBlock≠some w8.heap.size):=hd_ ⟨HS8.out.ord.2.2.2.2,by have:=H18.out.lt;omega,fun e=>by have:=(HS8.out.ws.cnk.lt _ e).2;omega,fun e=>by have:=(HS8.out.own.lt _ e).2;omega⟩
   clear hal H18;go_upto_block 2 with fail
   clear s8;generalize w8.alloc (.cells #[.string p,.int .i64 0,.int .i64 0,.bool false,.bool false,.bool false,.int .u64 0,.int .i64 0,.int .i64 fn,.string ⟨#[]⟩,.int .i64 0,.int .i64 0] 90)=w9 at HS9 H189 H20 ⊢;generalize w8.heap.size=g20 at H20 HO ⊢;clear HS8;go_cut [] (fun wx=>Hid (∃(x:Edt) (m'':Nat) (cv'':Value) (l'':List Cnk),x.path=p∧x.base=fn∧m''≤m'+11∧l''.length≤l'.length+1∧Blk wx g20 90 [.string x.path,.int .i64 x.act,.int .i64 x.ty.base,.bool x.ty.k,.bool x.ty.l,.bool x.ty.x,.int .u64 x.sum,.int .i64 x.size,.int .i64 x.base,.string x.frm,.int .i64 x.fnum,.int .i64 x.fence]∧zpf w we wx U g gw m'' D (.slice Ar D.length cr) dr cv cv'' l'' g6 g7 gp B num es ev))
   case first =>
    by_cases h1:(k:Int)=a
    ·have q1:((k:Int) == a)=true:=by simpa using h1
     clear h1;go_upto_region 20 with fail;refine chR20 _ (by kernel_rfl) _ w9 g18 g20 v ⟨p,0,z2i,0,0,fn,z2l,0,0⟩ H189.out H20.out HO.out.2.1 ?_
     intro az aA aB aC w10 hB hG;have HB10:=hd_ hB;have HS10:=hd_ (HS9.out.grownAt hG (fun k e=>by injection e with e;subst e;exact⟨HO.out.1,HO.out.2.2⟩))
     clear hB hG q1;go_wp2_with fail;go_meet
     exact hd_ ⟨⟨p,5,v.ty,0,0,fn,z2l,0,0⟩,m',cv',l',rfl,rfl,by omega,by omega,HB10.out,HS10.out⟩
    ·have q1:((k:Int) == a)=false:=by simpa using h1
     clear h1;by_cases h2:(k:Int)=c
     ·have q2:((k:Int) == c)=true:=by simpa using h2
      have ha0:0≤a∧a<6:=by rcases HAC.out with e | e <;> omega
      obtain⟨ja,rfl⟩:∃ j:Nat,a=j:=⟨a.toNat,by omega⟩
      have ja6:ja<6:=by omega
      have HC9:Hid (∀ w',Below w9.heap.size w9 w'→w'.cell? ⟨gw,0,none⟩=some (.slice Ar D.length cr)∧w'.cell? ⟨gw,1,none⟩=some dr∧w'.cell? ⟨gp,ja,none⟩=some (.string (zff[ja]'ja6))):=hd_ fun w' hb=>⟨(HS9.out.under hb).ws.box.cell 0,(HS9.out.under hb).ws.box.cell 1,((HS9.out.under hb).bp.cell ja).trans (by rw[List.getElem?_map,List.getElem?_eq_getElem (show ja<zff.length from ja6)];rfl)⟩
      have HLP:=HLA.out (zff[ja]'ja6);generalize zff[ja]'ja6=p2 at HC9 HLP;unfold zh0 at HLP;generalize zec (zgs D p2)=v2 at HLP;generalize (zgs D p2).isSome=bo2 at HLP;have HR9:=hd_ HS9.out.ws.revs;have qa:(ja:Int)<6:=by omega
      clear h2 ha0;go_upto_region 22 with fail;refine chR22 _ (by kernel_rfl) _ w9 gw gp ja D.length cr Ar dr p2 v2 bo2 HC9.out qa (fun X hX=>HLP X (z45.below HR9.out hX)) ?_
      intro aF aG aH aI aJ aK aL aM aN aO aP aQ tb2 g21 w10 hb21 hge21 hbel;have HS10:=hd_ (HS9.out.under hbel);have H2010:=hd_ (H20.out.below hbel H20.out.lt);have H21:=hd_ hb21;have hne21:g20≠g21:=by have:=H20.out.lt;omega
      clear HLP HR9 hb21 hge21 hbel HC9 HS9 q2 qa;go_upto_region 23 with fail;refine chR23 _ (by kernel_rfl) _ w10 g21 g20 v2 ⟨p,0,z2i,0,0,fn,z2l,0,0⟩ H21.out H2010.out hne21 ?_
      intro aR aS aT aU aV aW aX aY aZ ba bd bf bg w11 hB hG;have HB11:=hd_ hB;have HS11:=hd_ (HS10.out.grownAt hG (fun k e=>by injection e with e;subst e;exact⟨HO.out.1,HO.out.2.2⟩))
      have HX:=hd_ (zgg U g m' 2 w11 HS11.out.ws.tape (by omega) (by omega))
      clear hB hG H21 hne21 HS10 H2010 q1;go_wp2_with fail;refine HX.out.mono ?_;rintro e w12 ⟨k1,rfl,hk1,hT,hK⟩;dsimp only;have HS12:=hd_ (HS11.out.next hK hT);have HB12:=hd_ (hK.blk HB11.out (by have:=HO.out.1;have:=HS11.out.ord;have:=HS11.out.ws.gU;have:=HS11.out.ws.UU;have:=HS11.out.ws.kept.size;have:=HS11.out.lo.1;simp;omega))
      obtain⟨bb,q3⟩:∃ b,(k1 == 0)=b:=⟨_,rfl⟩;clear hk1 hT hK HX HS11 HB11;cases bb with
      | false =>
       go_wp2_with fail;go_meet
       exact hd_ ⟨⟨p,4,v2.ty,v2.sum,v2.size,fn,v2.path,v2.num,0⟩,m'+1,cv',l',rfl,rfl,by omega,by omega,HB12.out,HS12.out⟩
      | true =>
       have HCO:=hd_ (zpa HS12.out.ws (by have:=HB.out.2.1;omega) (by omega))
       go_wp2_with fail;refine HCO.out.mono ?_;rintro e w13 ⟨s,z,cv2,l2,rfl,hS,hll,hF⟩;dsimp only;have HS13:=hd_ (HS12.out.step hF hS);have HB13:=hd_ (hF.blk HB12.out (by have:=HO.out.1;have:=HS12.out.ord;have:=HS12.out.ws.gU;have:=HS12.out.ws.UU;have:=HS12.out.ws.kept.size;have:=HS12.out.lo.1;omega) (by have:=HO.out.1;have:=HS12.out.ord;have:=HS12.out.lo.2.1;omega) (zky HS12.out.ws.cnk HB12.out (by decide)))
       have HLL:=hd_ hll;have HNB:Hid (cv2.ownBlock≠some g20∧ev.ownBlock≠some g20):=hd_ ⟨zky hS.cnk HB13.out (by decide),HO.out.2.2.2⟩
       clear hS hll hF HCO HS12 HB12 q3;obtain⟨x0,x1,x2,x3,x4,x5,x6,x7,x8,x9,x10,x11⟩:=z7z HB13.out;obtain⟨f0,f1,f2,f3,f4,f5,f6,f7,f8,f9,f10,f11⟩:=zdz HB13.out;have HN:=hd_ ((HB13.out.set_ 6 (.int .u64 (s:Int))).set_ 7 (.int .i64 (z:Int)));have HG:=hd_ (HS13.out.grownAt (zpb (zpb (zpd _ (some g20)) 6 (.int .u64 (s:Int))) 7 (.int .i64 (z:Int))) (fun k e=>by injection e with e;subst e;exact⟨HO.out.1,HNB.out⟩))
       go_wp2_with fail;go_meet
       exact hd_ ⟨⟨p,4,v2.ty,s,z,fn,v2.path,v2.num,0⟩,m'+1+5,cv2,l2,rfl,rfl,by omega,HLL.out,HN.out,HG.out⟩
     ·have q2:((k:Int) == c)=false:=by simpa using h2
      have HX:=hd_ (zgg U g m' 3 w9 HS9.out.ws.tape (by omega) (by omega))
      clear h2;go_wp2_with fail;refine HX.out.mono ?_;rintro e w10 ⟨k1,rfl,hk1,hT,hK⟩;dsimp only;have HS10:=hd_ (HS9.out.next hK hT);have HB10:=hd_ (hK.blk H20.out (by have:=HO.out.1;have:=HS9.out.ord;have:=HS9.out.ws.gU;have:=HS9.out.ws.UU;have:=HS9.out.ws.kept.size;have:=HS9.out.lo.1;have:=HS9.out.lo.2.1;simp;omega))
      have HV10:=hd_ (hK.blk H189.out (by have:=HG18.out;have:=HS9.out.ord;have:=HS9.out.ws.gU;have:=HS9.out.ws.UU;have:=HS9.out.ws.kept.size;have:=HS9.out.lo.1;simp;omega))
      clear hT hK HX HS9 H20 H189;by_cases h3:0<k1
      ·have q3:decide (0<k1)=true:=decide_eq_true h3;clear h3 hk1;go_wp2_with fail;go_roundw
       case rel=>exact⟨k+1,by go_num,by have:=HLT.out;omega,hd_ ⟨m'+1,cv',l',es,ev,by have:=HB.out.1;omega,by have:=HB.out.2.1;omega,HB.out.2.2.skip,HS10.out⟩⟩
       case measure=>have:=HLT.out;simp [intOf];omega
      ·have q3:decide (0<k1)=false:=decide_eq_false h3;clear h3 hk1;cases fb with
       | false =>
        have HTY:Hid (Calls prog 92 #[.pointer (some ⟨g,0,none⟩)] w10 fun e w'=>∃ ty:Ty,e=.returned (.agg #[.int .i64 ty.base,.bool ty.k,.bool ty.l,.bool ty.x])∧zgf w' U g (m'+1+1)∧z6t [g] w10 w'):=hd_ (zmv U g (m'+1) w10 HS10.out.ws.tape (by have:=HS10.out.ws.UU;have:=HS10.out.ws.kept.size;omega) (by omega))
        go_wp2_with fail;refine HTY.out.mono ?_;rintro e w11 ⟨ty,rfl,hT,hK⟩;dsimp only;have HS11:=hd_ (HS10.out.next hK hT);have HB11:=hd_ (hK.blk HB10.out (by have:=HO.out.1;have:=HS10.out.ord;have:=HS10.out.ws.gU;have:=HS10.out.ws.UU;have:=HS10.out.ws.kept.size;have:=HS10.out.lo.1;have:=HS10.out.lo.2.1;simp;omega))
        have HCO:=hd_ (zpa HS11.out.ws (by have:=HB.out.2.1;omega) (by omega))
        clear hT hK HTY HS10 HB10 HV10;go_wp2_with fail;refine HCO.out.mono ?_;rintro e w13 ⟨s,z,cv2,l2,rfl,hS,hll,hF⟩;dsimp only;have HS13:=hd_ (HS11.out.step hF hS);have HB13:=hd_ (hF.blk HB11.out (by have:=HO.out.1;have:=HS11.out.ord;have:=HS11.out.ws.gU;have:=HS11.out.ws.UU;have:=HS11.out.ws.kept.size;have:=HS11.out.lo.1;have:=HS11.out.lo.2.1;omega) (by have:=HO.out.1;have:=HS11.out.ord;have:=HS11.out.ws.gU;have:=HS11.out.ws.UU;have:=HS11.out.ws.kept.size;have:=HS11.out.lo.1;have:=HS11.out.lo.2.1;omega) (zky HS11.out.ws.cnk HB11.out (by decide)))
        have HLL:=hd_ hll;have HNB:Hid (cv2.ownBlock≠some g20∧ev.ownBlock≠some g20):=hd_ ⟨zky hS.cnk HB13.out (by decide),HO.out.2.2.2⟩
        clear hS hll hF HCO HS11 HB11;obtain⟨x0,x1,x2,x3,x4,x5,x6,x7,x8,x9,x10,x11⟩:=z7z HB13.out;obtain⟨f0,f1,f2,f3,f4,f5,f6,f7,f8,f9,f10,f11⟩:=zdz HB13.out;have HN:=hd_ (((((((HB13.out.set_ 1 (.int .i64 1)).set_ 2 (.int .i64 ty.base)).set_ 3 (.bool ty.k)).set_ 4 (.bool ty.l)).set_ 5 (.bool ty.x)).set_ 6 (.int .u64 (s:Int))).set_ 7 (.int .i64 (z:Int)));have HG:=hd_ (HS13.out.grownAt (zpb (zpb (zpb (zpb (zpb (zpb (zpb (zpd _ (some g20)) 1 (.int .i64 1)) 2 (.int .i64 ty.base)) 3 (.bool ty.k)) 4 (.bool ty.l)) 5 (.bool ty.x)) 6 (.int .u64 (s:Int))) 7 (.int .i64 (z:Int))) (fun k e=>by injection e with e;subst e;exact⟨HO.out.1,HNB.out⟩))
        go_wp2_with fail;go_meet
        exact hd_ ⟨⟨p,1,ty,s,z,fn,z2l,0,0⟩,m'+1+1+5,cv2,l2,rfl,rfl,by omega,HLL.out,HN.out,HG.out⟩
       | true =>
        have HX:=hd_ (zgg U g (m'+1) 4 w10 HS10.out.ws.tape (by omega) (by omega))
        go_wp2_with fail;refine HX.out.mono ?_;rintro e w11 ⟨k2,rfl,hk2,hT,hK⟩;dsimp only;have HS11:=hd_ (HS10.out.next hK hT);have HB11:=hd_ (hK.blk HB10.out (by have:=HO.out.1;have:=HS10.out.ord;have:=HS10.out.ws.gU;have:=HS10.out.ws.UU;have:=HS10.out.ws.kept.size;have:=HS10.out.lo.1;have:=HS10.out.lo.2.1;simp;omega))
        have HV11:=hd_ (hK.blk HV10.out (by have:=HG18.out;have:=HS10.out.ord;have:=HS10.out.ws.gU;have:=HS10.out.ws.UU;have:=HS10.out.ws.kept.size;have:=HS10.out.lo.1;simp;omega))
        obtain⟨bb,q4⟩:∃ b,(k2 == 0)=b:=⟨_,rfl⟩;clear hk2 hT hK HX HS10 HB10 HV10;cases bb with
        | true =>
         go_upto_region 30 with fail;refine chR30 _ (by kernel_rfl) _ w11 g18 g20 v ⟨p,0,z2i,0,0,fn,z2l,0,0⟩ HV11.out HB11.out HO.out.2.1 ?_
         intro bh bi bj bq w12 hB hG;have HB12:=hd_ hB;have HS12:=hd_ (HS11.out.grownAt hG (fun k e=>by injection e with e;subst e;exact⟨HO.out.1,HO.out.2.2⟩))
         clear hB hG;go_wp2_with fail;go_meet
         exact hd_ ⟨⟨p,3,v.ty,0,0,fn,z2l,0,0⟩,m'+1+1,cv',l',rfl,rfl,by omega,by omega,HB12.out,HS12.out⟩
        | false =>
         have HCO:Hid (∀ X,Below w11.heap.size w11 X→Calls prog 91 #[.pointer (some ⟨gw,0,none⟩),.pointer (some ⟨g,0,none⟩)] X fun e w'=>∃ s z:Nat,e=.returned (.agg #[.int .u64 s,.int .i64 z])∧Blk w' g18 66 [.string v.path,.int .i64 v.num,.int .i64 v.chg,.int .i64 v.act,.int .i64 v.ty.base,.bool v.ty.k,.bool v.ty.l,.bool v.ty.x,.int .u64 v.sum,.int .i64 v.size,.string v.frm,.int .i64 v.fnum]∧Blk w' g20 90 [.string p,.int .i64 0,.int .i64 0,.bool false,.bool false,.bool false,.int .u64 0,.int .i64 0,.int .i64 fn,.string ⟨#[]⟩,.int .i64 0,.int .i64 0]∧(∃ cv2 l2,zpf w we w' U g gw (m'+1+1+5) D (.slice Ar D.length cr) dr cv cv2 l2 g6 g7 gp B num es ev∧l2.length≤l'.length+1∧Blk w' g20 90 [.string p,.int .i64 0,.int .i64 0,.bool false,.bool false,.bool false,.int .u64 0,.int .i64 0,.int .i64 fn,.string ⟨#[]⟩,.int .i64 0,.int .i64 0])):=hd_ fun X hX=>by
          have HSX:=hd_ (HS11.out.under hX);have hB:=HB11.out.below hX HB11.out.lt;have hV:=HV11.out.below hX HV11.out.lt;refine (zpa HSX.out.ws (by have:=HB.out.2.1;omega) (by omega)).mono ?_
          rintro e w13 ⟨s,z,cv2,l2,rfl,hS,hll,hF⟩;have hB2:=hF.blk hB (by have:=HO.out.1;have:=HSX.out.ord;have:=HSX.out.ws.gU;have:=HSX.out.ws.UU;have:=HSX.out.ws.kept.size;have:=HSX.out.lo.1;have:=HSX.out.lo.2.1;omega) (by have:=HO.out.1;have:=HSX.out.ord;have:=HSX.out.ws.gU;have:=HSX.out.ws.UU;have:=HSX.out.ws.kept.size;have:=HSX.out.lo.1;have:=HSX.out.lo.2.1;omega) (zky HSX.out.ws.cnk hB (by decide))
          have hV2:=hF.blk hV (by have:=HG18.out;have:=HSX.out.ord;have:=HSX.out.ws.gU;have:=HSX.out.ws.UU;have:=HSX.out.ws.kept.size;have:=HSX.out.lo.1;have:=HSX.out.lo.2.1;omega) (by have:=HG18.out;have:=HSX.out.ord;have:=HSX.out.ws.gU;have:=HSX.out.ws.UU;have:=HSX.out.ws.kept.size;have:=HSX.out.lo.1;have:=HSX.out.lo.2.1;omega) (zky HSX.out.ws.cnk hV (by decide))
          exact⟨s,z,rfl,hV2,hB2,cv2,l2,HSX.out.step hF hS,hll,hB2⟩
         clear q1 q2 q3;go_upto_region 16 with fail;refine chR16 _ (by kernel_rfl) _ w11 g gw g18 g20 v ⟨p,0,z2i,0,0,fn,z2l,0,0⟩ _ HV11.out HO.out.2.1 HCO.out ?_
         intro ab ac af ag ah ai aj ak s z w12 w13 hF hB hV hG;obtain⟨cv2,l2,hS,hll,hB2⟩:=hF;have HNB:Hid (cv2.ownBlock≠some g20∧ev.ownBlock≠some g20):=hd_ ⟨zky hS.ws.cnk hB2 (by decide),HO.out.2.2.2⟩
         have HS13:=hd_ (hS.grownAt hG (fun k e=>by injection e with e;subst e;exact⟨HO.out.1,HNB.out⟩))
         have HB13:=hd_ hB;have HLL:=hd_ hll;have HX:=hd_ (zgg U g (m'+1+1+5) 4 w13 HS13.out.ws.tape (by omega) (by omega))
         clear hS hll hB2 hB hV hG HCO HS11 HB11 HV11 q4;go_wp2_with fail;refine HX.out.mono ?_;rintro e w14 ⟨k3,rfl,hk3,hT,hK⟩;dsimp only;have HS14:=hd_ (HS13.out.next hK hT);have HB14:=hd_ (hK.blk HB13.out (by have:=HO.out.1;have:=HS13.out.ord;have:=HS13.out.ws.gU;have:=HS13.out.ws.UU;have:=HS13.out.ws.kept.size;have:=HS13.out.lo.1;have:=HS13.out.lo.2.1;simp;omega))
         obtain⟨bb,q5⟩:∃ b,(k3 == 0)=b:=⟨_,rfl⟩;clear hk3 hT hK HX HS13 HB13;cases bb with
         | false =>
          go_wp2_with fail;go_meet
          exact hd_ ⟨⟨p,2,v.ty,s,z,fn,z2l,0,0⟩,m'+1+1+5+1,cv2,l2,rfl,rfl,by omega,HLL.out,HB14.out,HS14.out⟩
         | true =>
          have HTY:Hid (Calls prog 92 #[.pointer (some ⟨g,0,none⟩)] w14 fun e w'=>∃ ty:Ty,e=.returned (.agg #[.int .i64 ty.base,.bool ty.k,.bool ty.l,.bool ty.x])∧zgf w' U g (m'+1+1+5+1+1)∧z6t [g] w14 w'):=hd_ (zmv U g (m'+1+1+5+1) w14 HS14.out.ws.tape (by have:=HS14.out.ws.UU;have:=HS14.out.ws.kept.size;omega) (by omega))
          go_wp2_with fail;refine HTY.out.mono ?_;rintro e w15 ⟨ty,rfl,hT,hK⟩;dsimp only;have HS15:=hd_ (HS14.out.next hK hT);have HB15:=hd_ (hK.blk HB14.out (by have:=HO.out.1;have:=HS14.out.ord;have:=HS14.out.ws.gU;have:=HS14.out.ws.UU;have:=HS14.out.ws.kept.size;have:=HS14.out.lo.1;have:=HS14.out.lo.2.1;simp;omega))
          clear hT hK HTY HS14 HB14 q5;obtain⟨x0,x1,x2,x3,x4,x5,x6,x7,x8,x9,x10,x11⟩:=z7z HB15.out;obtain⟨f0,f1,f2,f3,f4,f5,f6,f7,f8,f9,f10,f11⟩:=zdz HB15.out;have HN:=hd_ ((((HB15.out.set_ 2 (.int .i64 ty.base)).set_ 3 (.bool ty.k)).set_ 4 (.bool ty.l)).set_ 5 (.bool ty.x));have HG:=hd_ (HS15.out.grownAt (zpb (zpb (zpb (zpb (zpd _ (some g20)) 2 (.int .i64 ty.base)) 3 (.bool ty.k)) 4 (.bool ty.l)) 5 (.bool ty.x)) (fun k e=>by injection e with e;subst e;exact⟨HO.out.1,HNB.out⟩))
          go_wp2_with fail;go_meet
          exact hd_ ⟨⟨p,2,ty,s,z,fn,z2l,0,0⟩,m'+1+1+5+1+1,cv2,l2,rfl,rfl,by omega,HLL.out,HN.out,HG.out⟩
   case rest =>
    obtain⟨x,m2,cv2,l2,hx1,hx2,hm2,hl2,hXB,hS⟩:=hcut.out;have HS2:=hd_ hS;have HX2:=hd_ (And.intro hx1 (And.intro hx2 (And.intro hm2 hl2)));obtain⟨Ae,ce,rfl⟩:=z0o hS.own;have e3:wc.cell? ⟨g7,3,none⟩=some (.slice Ae es.length ce):=hS.b7.cell 3;obtain⟨x0,x1,x2,x3,x4,x5,x6,x7,x8,x9,x10,x11⟩:=z7z hXB;have hel:es.length≤6:=by have:=HB.out.2.2.len;omega
    have HSA:=hd_ (hS.under ((Below.refl wc.heap.size wc).alloc (Nat.le_refl _) (.cells #[.string x.path,.int .i64 x.act,.int .i64 x.ty.base,.bool x.ty.k,.bool x.ty.l,.bool x.ty.x,.int .u64 x.sum,.int .i64 x.size,.int .i64 x.base,.string x.frm,.int .i64 x.fnum,.int .i64 x.fence] 90)));have hrow:=z0i wc [.string x.path,.int .i64 x.act,.int .i64 x.ty.base,.bool x.ty.k,.bool x.ty.l,.bool x.ty.x,.int .u64 x.sum,.int .i64 x.size,.int .i64 x.base,.string x.frm,.int .i64 x.fnum,.int .i64 x.fence] 90 12 1 rfl (by unfold maxLen;omega) wc.heap.size rfl
    clear hcut hx1 hx2 hm2 hl2 hXB hS HS9 H20 H189;go_wp2_with (at_builtin;refine z0j rfl rfl edtElem HSA.out.own rfl hrow rfl (by simp [Value.oneCell']) (by omega) (by unfold maxLen;omega) HSA.out.ord.2.2.2.2 ?_;intro A' c' w6 hown hgr hob;obtain⟨⟨y3,f3⟩,hNS⟩:=HSA.out.push (es':=es++[x]) hgr (by rw[List.length_append,List.flatMap_append];exact hown))
    have HN:=hd_ hNS;have HEK:Hid (EdK D (k+1) (es++[x])):=hd_ (HB.out.2.2.push (show k<zff.length from k6) (HX2.out.1.trans HPE.out.symm) (by rw[HX2.out.2.1,HX2.out.1];exact HNN.out.symm))
    clear hown hgr hob hNS hrow e3 x0 x1 x2 x3 x4 x5 x6 x7 x8 x9 x10 x11;go_wp2_with fail;go_roundw
    case rel=>exact⟨k+1,by go_num,by have:=HLT.out;omega,hd_ ⟨m2,cv2,l2,es++[x],_,by have:=HB.out.1;have:=HX2.out.2.2.1;omega,by have:=HB.out.2.1;have:=HX2.out.2.2.2;omega,HEK.out,HN.out⟩⟩
    case measure=>have:=HLT.out;simp [intOf];omega
  ·have hk6:k=6:=by omega
   subst hk6;obtain⟨m',cv',l',es,ev,hm',hl',hEK,hS⟩:=HI.out;obtain⟨Ae,ce,rfl⟩:=z0o hS.own;obtain⟨c0,c1,c2,c3,c4⟩:=zhx hS.b7;obtain⟨z0,z1,z2,z3,z4⟩:=zhx hS.b6;obtain⟨f0,f1,f2,f3,f4⟩:=(⟨hS.b6.frozen 0,hS.b6.frozen 1,hS.b6.frozen 2,hS.b6.frozen 3,hS.b6.frozen 4⟩:wr.frozen? ⟨g6,0,none⟩=false∧wr.frozen? ⟨g6,1,none⟩=false∧wr.frozen? ⟨g6,2,none⟩=false∧wr.frozen? ⟨g6,3,none⟩=false∧wr.frozen? ⟨g6,4,none⟩=false);have hE:=((((hS.b6.set_ 0 (.int .i64 num)).set_ 1 (.string ⟨#[]⟩)).set_ 2 (.string ⟨#[]⟩)).set_ 3 (.slice Ae es.length ce)).set_ 4 (.slice none 0 0);have hG:=zpb (zpb (zpb (zpb (zpb (zpd wr (some g6)) 0 (.int .i64 num)) 1 (.string ⟨#[]⟩)) 2 (.string ⟨#[]⟩)) 3 (.slice Ae es.length ce)) 4 (.slice none 0 0);have hne:(Value.slice Ae es.length ce).ownBlock≠some g6:=fun e=>by have:=(hS.own.lt g6 e).1;have:=hS.ord;omega
   have HF:Hid (z47 _ (.slice Ae es.length ce) es∧WsB w _ U g gw m' D (.slice Ar D.length cr) dr cv' l'∧Frm we _ g gw cv cv'):=hd_ ⟨Row.of_own (zpg hS.own (fun x hx=>hG.block x (hS.own.lt x hx).2 (fun e=>by injection e with e;subst e;exact hne hx))),hS.ws.grownAt hG (fun q e=>by injection e with e;subst e;exact⟨by have:=hS.ord.1;have:=hS.lo.1;omega,by have:=hS.ord.1;have:=hS.lo.2.1;omega,zky hS.ws.cnk hS.b6 (by decide),fun e2=>by have:=hS.lo.2.2 _ e2;have:=hS.ord.1;omega⟩),hS.frm.grownAt hG (fun q e=>by injection e with e;have:=hS.ord.1;omega)⟩
   have HE:=hd_ hE;have HK:=hd_ (And.intro hm' (And.intro hl' hEK));clear HI hm' hl' hEK hS hE hG hne;go_wp2_with fail;have hE:=HE.out;have hF:=HF.out;generalize ((((wr.setCell ⟨g6,0,none⟩ (.int .i64 num)).setCell ⟨g6,1,none⟩ (.string ⟨#[]⟩)).setCell ⟨g6,2,none⟩ (.string ⟨#[]⟩)).setCell ⟨g6,3,none⟩ (.slice Ae es.length ce)).setCell ⟨g6,4,none⟩ (.slice none 0 0)=W8 at hE hF ⊢;obtain⟨e0,e1,e2,e3,e4⟩:=zhx hE;exact bodyPost_ret (v:=.agg #[.int .i64 num,.string ⟨#[]⟩,.string ⟨#[]⟩,(.slice Ae es.length ce),.slice none 0 0]) (by simp [results,results59,go_sem,e0,e1,e2,e3,e4]) rfl ⟨.slice Ae es.length ce,es,cv',l',rfl,hF.1,HK.out.2.2,hF.2.1.mono (by have:=HK.out.1;omega),HK.out.2.1,hF.2.2⟩
theorem zpi {w wr:World}{U g gw m:Nat}{D:List Rev}{dv dr cv:Value}{l:List Cnk}(h:WsB w wr U g gw m D dv dr cv l)(hl:l.length≤50000)(hm:m≤79000)(hD:D.length≤1000)(num:Int):
  Calls prog 59 #[.pointer (some ⟨gw,0,none⟩),.pointer (some ⟨g,0,none⟩),.int .i64 num] wr (ChPost w wr U g gw (m+70) D dv dr cv l.length num):=by
 obtain⟨Ar,cr,rfl,-⟩:=id h.revs;obtain⟨W2,hW2⟩:∃ W,W=(wr.alloc (.cells #[.int .i64 0,.string ⟨#[]⟩,.string ⟨#[]⟩,.slice none 0 0,.slice none 0 0] 95)).alloc (.cells #[.int .i64 num,.string ⟨#[]⟩,.string ⟨#[]⟩,.slice none 0 0,.slice none 0 0] 95):=⟨_,rfl⟩;have hb2:Below wr.heap.size wr W2:=by rw[hW2];exact ((Below.refl _ _).alloc (Nat.le_refl _) _).alloc (by simp) _
 have hs2:W2.heap.size=wr.heap.size+1+1:=by rw[hW2];simp
 have h6:Blk W2 wr.heap.size 95 [.int .i64 0,.string ⟨#[]⟩,.string ⟨#[]⟩,.slice none 0 0,.slice none 0 0]:=by rw[hW2];exact (z0l wr _ _).alloc _
 have h7:Blk W2 (wr.heap.size+1) 95 [.int .i64 num,.string ⟨#[]⟩,.string ⟨#[]⟩,.slice none 0 0,.slice none 0 0]:=by
  rw[hW2];have:=z0l (wr.alloc (.cells #[.int .i64 0,.string ⟨#[]⟩,.string ⟨#[]⟩,.slice none 0 0,.slice none 0 0] 95)) [.int .i64 num,.string ⟨#[]⟩,.string ⟨#[]⟩,.slice none 0 0,.slice none 0 0] 95;simp only[World.size_alloc] at this
  exact this
 have hb3:Below W2.heap.size W2 (W2.alloc (.cells (zff.map Value.string).toArray 9)):=(Below.refl _ _).alloc (Nat.le_refl _) _;have HST:Hid (zpf w wr (W2.alloc (.cells (zff.map Value.string).toArray 9)) U g gw m D (.slice Ar D.length cr) dr cv cv l wr.heap.size (wr.heap.size+1) (wr.heap.size+1+1) (wr.heap.size+1+1+1) num [] (.slice none 0 0)):=hd_ (by
  have hbx:=z0r hb2 hb3;refine⟨h.under hbx,Frm.of_kept (z6t.below hbx),h6.below hb3 h6.lt,h7.below hb3 h7.lt,?_,World.ownsRow_nil _ _ _ _,⟨Nat.le_refl _,by omega,by omega,by omega,by simp [hs2]⟩,h.kept.size,h.box.lt,fun x hx=>(h.far x hx).2.1⟩
  have:=z0l W2 (zff.map Value.string) 9;rw[hs2] at this;exact this)
 have HW:=hd_ hW2;have HPA:=hd_ (zll W2);have HL:Hid (∀(p:ByteArray) X,z45 X (.slice Ar D.length cr) D→Calls prog 89 #[.agg #[.slice Ar D.length cr,dr],.string p] X fun e w'=>e=.returned (.tuple #[.bool (zi0 D p),.int .i64 (zec (zgs D p)).num])∧Below X.heap.size X w'):=hd_ fun p X hX=>zi2 D p _ dr X hX (by omega)
 have HLA:Hid (∀(p:ByteArray) X,z45 X (.slice Ar D.length cr) D→Calls prog 90 #[.agg #[.slice Ar D.length cr,dr],.string p] X (zh0 X (zgs D p))):=hd_ fun p X hX=>zh1 D p _ dr X hX (by omega)
 clear h hW2 hb2 h6 h7 hb3;rw[hs2] at HPA;go_enter func59,ntmps59;go_upto_region 2 with fail;rw[← HW.out];go_wp2_with fail;refine HPA.out.mono ?_;rintro e w3 ⟨rfl,rfl⟩;dsimp only;clear HPA HW hs2;go_upto_region 3 with fail;generalize W2.alloc (.cells (zff.map Value.string).toArray 9)=W3 at HST ⊢;have hB:Hid (True):=hd_ trivial;generalize wr.heap.size+1+1+1=B at HST;generalize wr.heap.size+1+1=gp at HST ⊢;generalize wr.heap.size+1=g7 at HST ⊢;generalize hg6:wr.heap.size=g6 at HST ⊢;have HX:=hd_ (zgg U g m 3 W3 HST.out.ws.tape (by omega) (by omega))
 go_wp2_with fail;refine HX.out.mono ?_;rintro e w4 ⟨k,rfl,hk,hT,hK⟩;dsimp only;have HS4:=hd_ (HST.out.next hK hT);obtain⟨b,q0⟩:∃ b,(k == 0)=b:=⟨_,rfl⟩;clear hk hT hK HX HST hB;go_upto_if 28 with fail
 clear q0;go_cut [9,10] (fun f t wx=>∃ a c:Int,f=.int .i64 a∧t=.int .i64 c∧Hid ((a=-1∧c=-1∨(0≤a∧a<6)∧0≤c∧c<6)∧∃ m',m'≤m+3∧zpf w wr wx U g gw m' D (.slice Ar D.length cr) dr cv cv l g6 g7 gp B num [] (.slice none 0 0)))
 case first =>
  cases b with
  | false =>
   go_wp2_with fail;go_meet
   exact⟨-1,-1,rfl,rfl,hd_ ⟨.inl ⟨rfl,rfl⟩,m+1,by omega,HS4.out⟩⟩
  | true =>
   have HX:=hd_ (zgg U g (m+1) 6 w4 HS4.out.ws.tape (by omega) (by omega))
   go_wp2_with fail;refine HX.out.mono ?_;rintro e w5 ⟨a,rfl,ha,hT,hK⟩;dsimp only;obtain⟨ja,rfl⟩:∃ j:Nat,a=j:=⟨a.toNat,by have:=ha.1;omega⟩
   have ja6:ja<6:=by have:=ha.2.1 (by omega);omega
   have HS5:=hd_ (HS4.out.next hK hT);have HX2:=hd_ (zgg U g (m+1+1) 6 w5 HS5.out.ws.tape (by omega) (by omega))
   clear ha hT hK HX HS4;go_wp2_with fail;refine HX2.out.mono ?_;rintro e w6 ⟨c,rfl,hc,hT,hK⟩;dsimp only;obtain⟨jc,rfl⟩:∃ j:Nat,c=j:=⟨c.toNat,by have:=hc.1;omega⟩
   have jc6:jc<6:=by have:=hc.2.1 (by omega);omega
   have HS6:=hd_ (HS5.out.next hK hT);clear hc hT hK HX2 HS5;have fs:w6.cell? ⟨gp,ja,none⟩=some (.string (zff[ja]'(show ja<zff.length from ja6))):=(HS6.out.bp.cell ja).trans (by rw[List.getElem?_map,List.getElem?_eq_getElem (show ja<zff.length from ja6)];rfl)
   have fc:=HL.out (zff[ja]'(show ja<zff.length from ja6));generalize zff[ja]'(show ja<zff.length from ja6)=p at fs fc;generalize zi0 D p=fb at fc;generalize (zec (zgs D p)).num=fn at fc;have cL:∀ d os,Calls prog 89 #[.agg #[.slice Ar D.length cr,dr],.string p] (grow (redrawn w6 d) os) fun e w''=>e=.returned (.tuple #[.bool fb,.int .i64 fn])∧∃ p:Regrown,w''=grow (redrawn w6 p.d) p.os:=fun d os=>Calls.regrown_of (fc _ (HS6.out.ws.revs.below (below_regrown w6 d os)));have x0:=cell_regrown (show w6.cell? ⟨gw,0,none⟩=some (.slice Ar D.length cr) from HS6.out.ws.box.cell 0);have x1:=cell_regrown (show w6.cell? ⟨gw,1,none⟩=some dr from HS6.out.ws.box.cell 1);have x2:=cell_regrown fs;have qz:(ja:Int)<6:=by omega
   clear fs fc;go_upto_region 6 with fail;refine wp_region_quiet_below (by kernel_rfl) (by kernel_rfl) ?_
   repeat (first | go_big_quiet_step (exact cL _ _) | quiet_step (exact cL _ _))
   refine wpQuiet_nil ?_;intro _ hw9;obtain⟨⟨dq,osq⟩,hw9⟩:=hw9;subst hw9;have HS7:=hd_ (HS6.out.under (below_regrown w6 dq osq));clear cL x0 x1 x2 qz;generalize grow (redrawn w6 dq) osq=w7 at HS7 ⊢;have ts:w7.cell? ⟨gp,jc,none⟩=some (.string (zff[jc]'(show jc<zff.length from jc6))):=(HS7.out.bp.cell jc).trans (by rw[List.getElem?_map,List.getElem?_eq_getElem (show jc<zff.length from jc6)];rfl)
   have tc:=HL.out (zff[jc]'(show jc<zff.length from jc6));generalize zff[jc]'(show jc<zff.length from jc6)=p at ts tc;generalize zi0 D p=tb at tc;generalize (zec (zgs D p)).num=tn at tc;have cL:∀ d os,Calls prog 89 #[.agg #[.slice Ar D.length cr,dr],.string p] (grow (redrawn w7 d) os) fun e w''=>e=.returned (.tuple #[.bool tb,.int .i64 tn])∧∃ p:Regrown,w''=grow (redrawn w7 p.d) p.os:=fun d os=>Calls.regrown_of (tc _ (HS7.out.ws.revs.below (below_regrown w7 d os)));have x0:=cell_regrown (show w7.cell? ⟨gw,0,none⟩=some (.slice Ar D.length cr) from HS7.out.ws.box.cell 0);have x1:=cell_regrown (show w7.cell? ⟨gw,1,none⟩=some dr from HS7.out.ws.box.cell 1);have x2:=cell_regrown ts;have qz:(jc:Int)<6:=by omega
   clear ts tc;go_upto_region 7 with fail;refine wp_region_quiet_below (by kernel_rfl) (by kernel_rfl) ?_
   repeat (first | go_big_quiet_step (exact cL _ _) | quiet_step (exact cL _ _))
   refine wpQuiet_nil ?_;intro _ hw9;obtain⟨⟨dq,osq⟩,hw9⟩:=hw9;subst hw9;have HS8:=hd_ (HS7.out.under (below_regrown w7 dq osq));clear cL x0 x1 x2 qz;generalize grow (redrawn w7 dq) osq=w8 at HS8 ⊢;cases fb <;> cases tb
   all_goals
    go_wp2_with fail;go_meet
    first
     | exact⟨-1,-1,rfl,rfl,hd_ ⟨.inl ⟨rfl,rfl⟩,m+1+1+1,by omega,HS8.out⟩⟩
     | exact⟨ja,jc,rfl,rfl,hd_ ⟨.inr ⟨⟨by omega,by omega⟩,by omega,by omega⟩,m+1+1+1,by omega,HS8.out⟩⟩
 case rest =>
  obtain⟨a,c,rfl,rfl,HX⟩:=hcut;obtain⟨hac,m',hm',hS⟩:=HX.out;have HT:=hd_ (fun(T:Code) hT=>chT10 T hT (m:=m+3) (by omega) hD rfl hl hac ⟨hS.ws.mono hm',hS.frm,hS.b6,hS.b7,hS.bp,hS.own,hS.ord,hS.lo⟩)
  clear HX hac hm' hS HS4 HL HLA;rename ∀ a w,Code.wp _ (Code.seq (Code.seq (Code.region 10 _ _) _) _) _ a w→_=>hk7
  have HK7:=hd_ hk7;clear hk7;go_wp2_with fail;exact HK7.out _ _ (HT.out _ (by kernel_rfl) _ _ _ _ _ _ _ _ _ _ _ _ _ _ _ _ _ _ _ _ _ _ _ _ _ _ _ _ _ _ _ _ _ _ _ _ _ _ _ _ _ _ _ _ _ _ _ _ _ _ _ _ _ _ _ _ _ _ _ _ _ _ _ _ _ _ _ _ _ _ _ _ _ _ _ _ _ _ _ _ _ _ _ _ _ _ _ _ _ _ _ _ _ _ _ _ _ _ _ _ _ _ _ _ _ _ _ _ _ _ _ _ _ _ _ _ _ _ _ _ _ _ _ _ _ _ _ _ _ _ _ _ _ _ _ _ _ _ _ _ _ _ _ _ _ _ _ _ _ _ _ _ _ _ _ _ _ _ _ _ _ _ _ _ _ _ _ _ _ _ _ _ _ _ _ _ _ _ _ _ _ _)
section
variable {u0 u1 u2 u3 u4 u5 u6 u7 u8 u9 gn gt gu gx gy gz gA gC gD gE gF gG gH gI gJ gK gL gM gN gO gP gQ gR gT gV gW gX : Value}
def WaOk (B:Nat)(w':World)(D:List Rev)(num:Int)(es:List Edt)(A A2:Option Addr)(n c c2:Nat)(e0:Int):Prop:=
 e0≠0∨e0=0∧n=D.length+es.length∧z45 w' (.slice A n c) (D++es.map (zhy num))∧(∀ x,(Value.slice A n c).ownBlock=some x→B≤x∧x<w'.heap.size)∧z48 w' (.slice A2 0 c2) []
theorem wa_form {w:World}{D:List Rev}{es:List Edt}{num:Int}{e:Ending}{w':World}(h:zig w D es num e w'):∃(A A2:Option Addr) (n c c2:Nat) (e0:Int),e=.returned (.tuple #[.agg #[.slice A n c,.slice A2 0 c2],.int .i64 e0])∧Below w.heap.size w w'∧WaOk w.heap.size w' D num es A A2 n c c2 e0∧(e0≠0→A=none):=by
 obtain⟨hb,⟨n,hn,rfl⟩ | ⟨A,A2,c,c2,rfl,h1,h2,h3⟩⟩:=h
 ·exact⟨none,none,0,0,0,n,rfl,hb,.inl hn,fun _=>rfl⟩
 ·exact⟨A,A2,_,c,c2,0,rfl,hb,.inr ⟨rfl,rfl,h1,h2,h3⟩,fun h=>absurd rfl h⟩
structure MkP (w V w':World)(U g gw m:Nat)(D:List Rev)(dv dr cv:Value)(n0:Nat)(num:Int)(A A2:Option Addr)(n c c2:Nat)(e0:Int)(g8:Nat)(cv':Value)(l':List Cnk)(es:List Edt):Prop where
 ws:WsB w w' U g gw m D dv dr cv' l'
 len:l'.length≤n0+6
 frm:Frm V w' g gw cv cv'
 box:Blk w' g8 26 [.slice A n c,.slice A2 0 c2]
 lt:V.heap.size≤g8
 edk:EdK D 6 es
 ok:WaOk V.heap.size w' D num es A A2 n c c2 e0
 far:∀ x,(Value.slice A n c).ownBlock=some x→cv'.ownBlock≠some x∧x≠g8
theorem zpj {w w':World}{v:Value}(h:z48 w v []):z48 w' v []:=by
 obtain⟨A,c,e,hc,hm,hl,h0,-⟩:=h;exact⟨A,c,e,hc,hm,hl,h0,fun h=>absurd h (by decide)⟩
theorem wa_far {B:Nat}{w':World}{D:List Rev}{num:Int}{es:List Edt}{A A2:Option Addr}{n c c2:Nat}{e0:Int}(h:WaOk B w' D num es A A2 n c c2 e0)(he:e0=0){x:Nat}(hx:(Value.slice A n c).ownBlock=some x):B≤x:=by
 rcases h with h | h
 ·exact absurd he h
 ·exact (h.2.2.2.1 x hx).1
theorem mk_fin {w V Y w8:World}{U g gw m:Nat}{D:List Rev}{dv dr cv:Value}{n0:Nat}{num:Int}{A A2:Option Addr}{n c c2:Nat}{e0:Int}{g8:Nat}{cv':Value}{l':List Cnk}{es:List Edt}
  (hS:WsB w w8 U g gw m D dv dr cv' l') (hl:l'.length≤n0+6) (hF:Frm V w8 g gw cv cv') (hb:Blk w8 g8 26 [.slice none 0 0,.slice none 0 0]) (h1:V.heap.size≤g8) (hw:w.heap.size≤V.heap.size) (hgw:gw<V.heap.size) (h2:cv'.ownBlock≠some g8) (h3:∀ x,dv.ownBlock=some x→x<V.heap.size)
  (h4:g8<Y.heap.size) (hcv:∀ x,cv'.ownBlock=some x→x<Y.heap.size) (hk:EdK D 6 es) (hW:WaOk Y.heap.size w8 D num es A A2 n c c2 e0) (hnil:e0≠0→A=none):
  MkP w V ((w8.setCell ⟨g8,0,none⟩ (.slice A n c)).setCell ⟨g8,1,none⟩ (.slice A2 0 c2)) U g gw m D dv dr cv n0 num A A2 n c c2 e0 g8 cv' l' es:=by
 have d3:dv.ownBlock≠some g8:=fun e=>by have:=h3 _ e;omega
 have hne:g8≠gw:=by omega
 have hg8:w.heap.size≤g8:=by omega
 have hfr:∀ x,(Value.slice A n c).ownBlock=some x→Y.heap.size≤x:=fun x hx=>by
  by_cases he:e0=0
  ·exact wa_far hW he hx
  ·have hx2:=hx;rw[hnil he] at hx2;cases hx2
 refine⟨(hS.set_at hg8 hne h2 d3).set_at hg8 hne h2 d3,hl,?_,(hb.set_ 0 _).set_ 1 _,h1,hk,?_,fun x hx=>⟨fun e=>by have:=hcv x e;have:=hfr x hx;omega,by have:=hfr x hx;omega⟩⟩
 ·exact (hF.grownAt (z6u _ g8 0 _) (fun k e=>by injection e with e;omega)).grownAt (z6u _ g8 1 _) (fun k e=>by injection e with e;omega)
 ·rcases hW with h | ⟨h5,h6,h7,h8,h9⟩
  ·exact .inl h
  ·have n8:(Value.slice A n c).ownBlock≠some g8:=fun e=>by have:=hfr _ e;omega
   exact .inr ⟨h5,h6,Row.set_far (Row.set_far h7 n8) n8,(fun x hx=>⟨by have:=(h8 x hx).1;omega,by simp;exact (h8 x hx).2⟩),zpj h9⟩
theorem mk_finN {w V Y w8:World}{U g gw m:Nat}{D:List Rev}{dv dr cv:Value}{n0:Nat}{num:Int}{A A2:Option Addr}{n c c2:Nat}{e0:Int}{cv':Value}{l':List Cnk}{es:List Edt}
  (hS:WsB w w8 U g gw m D dv dr cv' l') (hl:l'.length≤n0+6) (hF:Frm V w8 g gw cv cv') (hY:V.heap.size≤Y.heap.size) (hcv:∀ x,cv'.ownBlock=some x→x<Y.heap.size) (hk:EdK D 6 es) (hW:WaOk Y.heap.size w8 D num es A A2 n c c2 e0) (hnil:e0≠0→A=none):
  MkP w V (w8.alloc (.cells #[.slice A n c,.slice A2 0 c2] 26)) U g gw m D dv dr cv n0 num A A2 n c c2 e0 w8.heap.size cv' l' es:=by
 have hA:Below w8.heap.size w8 (w8.alloc (.cells #[.slice A n c,.slice A2 0 c2] 26)):=(Below.refl _ _).alloc (Nat.le_refl _) _;have hfr:∀ x,(Value.slice A n c).ownBlock=some x→Y.heap.size≤x:=fun x hx=>by
  by_cases he:e0=0
  ·exact wa_far hW he hx
  ·have hx2:=hx;rw[hnil he] at hx2;cases hx2
 refine⟨hS.under hA,hl,hF.grownAt (row:=none) ⟨hA.os,hA.tape,hA.output,hA.size,fun k hk _=>hA.block k hk⟩ (fun k e=>by cases e),z0l w8 _ _,hF.size,hk,?_,fun x hx=>⟨fun e=>by have:=hcv x e;have:=hfr x hx;omega,fun e=>?_⟩⟩
 ·rcases hW with h | ⟨h5,h6,h7,h8,h9⟩
  ·exact .inl h
  ·exact .inr ⟨h5,h6,z45.below h7 hA,(fun x hx=>⟨Nat.le_trans hY (h8 x hx).1,Nat.lt_of_lt_of_le (h8 x hx).2 hA.size⟩),zpj h9⟩
 ·rcases hW with h | ⟨h5,h6,h7,h8,h9⟩
  ·rw[hnil h] at hx;cases hx
  ·have:=(h8 x hx).2;omega
structure MkQ (w V w5:World)(U g gw m:Nat)(D:List Rev)(dv dr cv:Value)(n0:Nat)(num:Int)(cv':Value)(l':List Cnk)(es:List Edt):Prop where
 ws:WsB w w5 U g gw m D dv dr cv' l'
 len:l'.length≤n0+6
 frm:Frm V w5 g gw cv cv'
 edk:EdK D 6 es
theorem MkQ.under {w V w5 X:World}{U g gw m:Nat}{D:List Rev}{dv dr cv:Value}{n0:Nat}{num:Int}{cv':Value}{l':List Cnk}{es:List Edt}(h:MkQ w V w5 U g gw m D dv dr cv n0 num cv' l' es)(hA:Below w5.heap.size w5 X):MkQ w V X U g gw m D dv dr cv n0 num cv' l' es:=
 ⟨h.ws.under hA,h.len,h.frm.grownAt (row:=none) ⟨hA.os,hA.tape,hA.output,hA.size,fun k hk _=>hA.block k hk⟩ (fun k e=>by cases e),h.edk⟩
theorem mkR7 (ops:Array Oper)(hops:Tryz.f30.body.bind (zci 7)=some ops)(Q:Exit→Act→World→Prop){w V:World}{U g gw m:Nat}{D:List Rev}{Ar Aq:Option Addr}{cr cq:Nat}{cv:Value}{l:List Cnk}(num:Int)
  (hS:WsB w V U g gw m D (.slice Ar D.length cr) (.slice Aq 0 cq) cv l) (hl:l.length≤40000) (hm:m≤70000) (hD:D.length≤900) {dn:Nat} (hDp:zmr D dn) (hdn:dn≤900) (he:∀ X,z6t [g] w X→Env X) (hQr:z48 w (.slice Aq 0 cq) [])
  (hQ:∀(eA eB eC eD eE eF eG eH eI:Value) (A A2:Option Addr) (n c c2:Nat) (e0:Int) (g8:Nat) (cv':Value) (l':List Cnk) (es:List Edt) (w':World),Hid (MkP w V w' U g gw (m+70) D (.slice Ar D.length cr) (.slice Aq 0 cq) cv l.length num A A2 n c c2 e0 g8 cv' l' es)→Q .normal ⟨#[.pointer (some ⟨g,0,none⟩),u1,u2,u3,u4,.pointer (some ⟨gw,0,none⟩),.int .i64 num,u7,.pointer (some ⟨g8,0,none⟩),.int .i64 e0,gn,gt,gu,gx,gy,gz,gA,gC,gD,gE,gF,gG,gH,eA,eB,eC,eD,eE,eF,eG,eH,eI,gR,gT,gV,gW,gX],[]⟩ w'):
  (Code.region 7 ops true).wp prog Q ⟨#[.pointer (some ⟨g,0,none⟩),u1,u2,u3,u4,.pointer (some ⟨gw,0,none⟩),.int .i64 num,u7,u8,u9,gn,gt,gu,gx,gy,gz,gA,gC,gD,gE,gF,gG,gH,gI,gJ,gK,gL,gM,gN,gO,gP,gQ,gR,gT,gV,gW,gX],[]⟩ V:=by
 simp only[Tryz.f30,Option.bind_some,zci] at hops
 simp at hops
 subst hops;have HQ:=hd_ hQ;have HCH:Hid (∀ X,Below V.heap.size V X→Calls prog 59 #[.pointer (some ⟨gw,0,none⟩),.pointer (some ⟨g,0,none⟩),.int .i64 num] X fun e w5=>∃(Ae:Option Addr) (ce:Nat) (es:List Edt) (cv':Value) (l':List Cnk),e=.returned (.agg #[.int .i64 num,.string ⟨#[]⟩,.string ⟨#[]⟩,.slice Ae es.length ce,.slice none 0 0])∧z47 w5 (.slice Ae es.length ce) es∧(∀ k cs,Blk X k 26 cs→V.heap.size≤k→Blk w5 k 26 cs∧cv'.ownBlock≠some k)∧MkQ w V w5 U g gw (m+70) D (.slice Ar D.length cr) (.slice Aq 0 cq) cv l.length num cv' l' es∧V.heap.size≤w5.heap.size∧X.heap.size≤w5.heap.size):=hd_ (fun X hX=>(zpi (hS.under hX) (by omega) (by omega) (by omega) num).mono fun e w5 h=>by
  obtain⟨ev,es,cv',l',rfl,hE,hK,hS5,hl5,hF5⟩:=h;obtain⟨Ae,ce,rfl,-⟩:=id hE;have hF:=(Frm.of_kept (gw:=gw) (cv:=cv) (z6t.below (S:=[g]) hX)).trans hF5;have hcl:∀ x,cv.ownBlock=some x→x<V.heap.size:=fun x hx=>(hS.cnk.lt x hx).2;have h1:=hS.box.lt;have h2:=hS.gU;have h3:=hS.UU;have h4:=hS.le;refine⟨Ae,ce,es,cv',l',rfl,hE,fun k cs hB hk=>⟨hF5.blk hB (by omega) (by omega) (fun e=>by have:=hcl k e;omega),fun e=>?_⟩,⟨hS5,hl5,hF,hK⟩,Nat.le_trans hX.size hF5.size,hF5.size⟩
  rcases hF5.ob with e2 | e2
  ·rw[e2] at e;have:=hcl k e;omega
  ·have:=e2 k e;have:=hB.lt;omega)
 have HAP:Hid (∀(Ae:Option Addr) (ce:Nat) (es:List Edt) (cv':Value) (l':List Cnk) (Y:World),MkQ w V Y U g gw (m+70) D (.slice Ar D.length cr) (.slice Aq 0 cq) cv l.length num cv' l' es→z47 Y (.slice Ae es.length ce) es→Calls prog 58 #[.agg #[.slice Ar D.length cr,.slice Aq 0 cq],.agg #[.int .i64 num,.string ⟨#[]⟩,.string ⟨#[]⟩,.slice Ae es.length ce,.slice none 0 0]] Y fun e w8=>∃(A A2:Option Addr) (n c c2:Nat) (e0:Int),e=.returned (.tuple #[.agg #[.slice A n c,.slice A2 0 c2],.int .i64 e0])∧Below Y.heap.size Y w8∧(∀ k cs,Blk Y k 26 cs→Blk w8 k 26 cs)∧MkQ w V w8 U g gw (m+70) D (.slice Ar D.length cr) (.slice Aq 0 cq) cv l.length num cv' l' es∧WaOk Y.heap.size w8 D num es A A2 n c c2 e0∧(e0≠0→A=none)∧(∀ x,cv'.ownBlock=some x→x<Y.heap.size)):=hd_ (fun Ae ce es cv' l' Y hQ hE=>by
  refine (zih D es num Ar Aq Ae cr cq ce Y (he Y hQ.ws.kept) hQ.ws.revs (by omega) hE hQ.edk.len (fun x hx=>?_) (zpj hQr)).mono fun e w8 h=>?_
  ·obtain⟨j,hj,-,hp⟩:=hQ.edk.six x hx;have hb:=hQ.edk.base x hx;rw[zms hDp] at hb;have hlog:(zgp D x.path).length≤D.length:=by unfold zgp;exact List.length_filter_le _ _
   have h6:∀ p∈zff,p.size≤2000000:=by decide
   exact⟨h6 _ (hp ▸ List.getElem_mem hj),by omega,by omega⟩
  ·obtain⟨A,A2,n,c,c2,e0,rfl,hb,hW,hn⟩:=wa_form h;exact⟨A,A2,n,c,c2,e0,rfl,hb,fun k cs hB=>hB.below hb hB.lt,hQ.under hb,hW,hn,fun x hx=>(hQ.ws.cnk.lt x hx).2⟩)
 have HCL:Hid (∀ {W:World} {cv':Value} {l':List Cnk} {es:List Edt},MkQ w V W U g gw (m+70) D (.slice Ar D.length cr) (.slice Aq 0 cq) cv l.length num cv' l' es→W.cell? ⟨gw,0,none⟩=some (.slice Ar D.length cr)∧W.cell? ⟨gw,1,none⟩=some (.slice Aq 0 cq)):=hd_ fun h=>⟨h.ws.box.cell 0,h.ws.box.cell 1⟩;have HO:Hid (w.heap.size≤V.heap.size∧gw<V.heap.size∧∀ x,(Value.slice Ar D.length cr).ownBlock=some x→x<V.heap.size):=hd_ ⟨hS.kept.size,hS.box.lt,fun x hx=>(hS.far x hx).2.1⟩;have hVA:Below V.heap.size V (V.alloc (.cells #[.slice none 0 0,.slice none 0 0] 26)).drew:=((Below.refl _ _).alloc (Nat.le_refl _) _).drew;have x0:V.cell? ⟨gw,0,none⟩=some (.slice Ar D.length cr):=hS.box.cell 0;have x1:V.cell? ⟨gw,1,none⟩=some (.slice Aq 0 cq):=hS.box.cell 1;have hS1:=hS.under hVA;have y0:(V.alloc (.cells #[.slice none 0 0,.slice none 0 0] 26)).drew.cell? ⟨gw,0,none⟩=some (.slice Ar D.length cr):=hS1.box.cell 0;have y1:(V.alloc (.cells #[.slice none 0 0,.slice none 0 0] 26)).drew.cell? ⟨gw,1,none⟩=some (.slice Aq 0 cq):=hS1.box.cell 1;clear hVA hS1 hS hQ hDp he hQr hl hm hD hdn;refine wp_region_noPanic ?_;go_region_law (first
  | (go_simp;go_at_call 59;refine (HCH.out _ (by repeat (first | exact Below.refl _ _ | refine Below.drew ?_ | refine zcf ?_ _))).mono ?_;rintro e w5 ⟨Ae,ce,es,cv',l',rfl,hE5,hB5,hQ5,hZ5,hZX⟩;obtain⟨p0,p1⟩:=HCL.out hQ5;(try have hblk5:=hB5 _ _ (Blk.drew' (z0l V [.slice none 0 0,.slice none 0 0] 26)) (Nat.le_refl _));(try have hblk5:=hB5 _ _ (z0l V [.slice none 0 0,.slice none 0 0] 26) (Nat.le_refl _));have hA5:Below w5.heap.size w5 (w5.alloc (.cells #[.slice none 0 0,.slice none 0 0] 26)):=(Below.refl _ _).alloc (Nat.le_refl _) _;obtain⟨q0,q1⟩:=HCL.out (hQ5.under hA5))
  | (go_simp;go_at_call 58;refine (HAP.out Ae ce es cv' l' _ (by first | exact hQ5 | exact hQ5.under hA5) (by first | exact hE5 | exact z47.below hE5 hA5)).mono ?_;rintro e w8 ⟨A,A2,n,c,c2,e0,rfl,hb8,hB8,hQ8,hW8,hn8,hcv8⟩;(first | (have hblk8:=hB8 _ _ hblk5.1;obtain⟨r0,r1,f0,f1⟩:=box2 hblk8) | (have hblk8:=hB8 _ _ (z0l w5 [.slice none 0 0,.slice none 0 0] 26);obtain⟨r0,r1,f0,f1⟩:=box2 hblk8) | skip))
  | fail)
 all_goals refine NoPanic.normal ?_
 all_goals first
  | exact HQ.out _ _ _ _ _ _ _ _ _ A A2 n c c2 e0 _ cv' l' es _ (mk_finN hQ8.ws hQ8.len hQ8.frm hZ5 hcv8 hQ8.edk hW8 hn8)
  | exact HQ.out _ _ _ _ _ _ _ _ _ A A2 n c c2 e0 _ cv' l' es _ (mk_fin hQ8.ws hQ8.len hQ8.frm hblk8 (Nat.le_refl _) HO.out.1 HO.out.2.1 hblk5.2 HO.out.2.2 (by have:=hZX;simp at this;omega) hcv8 hQ8.edk hW8 hn8)
  | exact HQ.out _ _ _ _ _ _ _ _ _ A A2 n c c2 e0 _ cv' l' es _ (mk_fin hQ8.ws hQ8.len hQ8.frm hblk8 hZ5 HO.out.1 HO.out.2.1 (fun e=>by have:=(hQ5.ws.cnk.lt _ e).2;omega) HO.out.2.2 (by simp) hcv8 hQ8.edk hW8 hn8)
end
end Go.Proofs.YtegeboijhifmcaaGreatDoor
