/- A part. -/
import Derived.Test.YtlnjaagijaadmaaGreatDoorMvw30
import Derived.Test.YtlnjaagijaadmaaGreatDoorMvw37
import Derived.Test.YtlnjaagijaadmaaGreatDoorMvw41
set_option linter.unusedVariables false
set_option linter.unusedSimpArgs false
set_option maxHeartbeats 16000000
set_option maxRecDepth 100000
namespace Go.Proofs.YtlnjaagijaadmaaGreatDoor
open Go.Proofs.Tryz
open Go.RowKit
theorem Env.keptT {w w':zW}{U g m:Nat}(he:Env w)(hT:z4d w U g m)(hK:z49 [g] w w'):Env w':=by
 obtain⟨x,hx⟩:=he;obtain⟨l,A,c,a,h1,-⟩:=hT;refine⟨x,(World.cell?_of_block (hK.block _ (z03 hx) ?_)).trans hx⟩;intro e;rw[Zm] at e;have h2:=h1.cell 0;rw[<- e,hx] at h2;cases h2
def HvPost (w:zW)(U g m:Nat)(e:Ending)(w':zW):Prop:=∃(v:zV) (l:List Hav),e=.returned v/\z5s w' v l/\z81 l/\(l.length<=6/\∀ x∈l,x.kt∈z8e)/\z4d w' U g m/\z49 [g] w w'/\∀ x,v.ownBlock=some x->w.heap.size<=x
structure WlOk (WL:List Hav):Prop where
 ok:z81 WL
 num:∀ x∈WL,1<=x.num/\x.num<=100000
 len:WL.length<=6
 six:∀ x∈WL,x.kt∈z8e
theorem wl_ok {D:List Rev}{n k:Nat}{es:List zdk}{j:Int}(hD:zoo D n)(hn:n<=1000)(hk:k<8)(he:es.map zdk.pl=zeb k):WlOk (z8j D (zdy es) j):=by
 have hf:z8h (zdy es):=(z8q k).of_congr (zej hk he).2;refine⟨z8m (zoq hD) hf,fun x hx=>?_,Zf (List.length_filterMap_le _ _) (by decide),z8n⟩
 obtain⟨p,hp,e⟩:=Yf.1 hx;obtain⟨-,-,r,hr,-,e4,-⟩:=z8l e;have h1:=zoq hD r hr;have h2:=zpw hD r hr;omega
theorem zrl (U g m n:Nat)(D:List Rev)(dv dr:zV)(w:zW)(he:Env w)(hT:z4d w U g m)(hU:U<=w.heap.size)(hm:m<=100000)(hR:z3w w dv D)(hD:zoo D n)(hn:n<=1000)(htop:0<=zir D/\zir D<=100000):
  Calls prog 14 #[.pointer (some ⟨g,0,none⟩),.agg #[dv,dr]] w (HvPost w U g (m+26)):=by
 obtain⟨Ar,cr,rfl,-⟩:=id hR;have hg:=hT.ltU;have hBx:=z0l w [zL Ar D.length cr,dr] 27;have hA:zB w (w.alloc (zC #[zL Ar D.length cr,dr] 27)):=zR;have HGU:Hid (g<w.heap.size/\U<=w.heap.size):=hd_ ⟨by omega,hU⟩
 have HDL:Hid (D.length<=1000):=hd_ (by have:=hD.len;omega)
 have HD:=hd_ hD;have HN:=hd_ hn;go_enter func14,ntmps14;go_upto_region 1 with fail;generalize w.alloc (zC #[zL Ar D.length cr,dr] 27)=W1 at hBx hA |-;have HE1:=hd_ (he.kw hA);have HT1:=hd_ (hT.kw hA);have HR1:=hd_ (z3w.kw hR hA);have HA:=hd_ (z49.kw (S:=[g]) hA);have hns:=hT.nosb;have HC:Hid (∀ w',z49 [g] W1 w'->w'.cell? ⟨w.heap.size,0,none⟩=some (.slice Ar D.length cr)/\w'.cell? ⟨w.heap.size,1,none⟩=some dr):=hd_ fun w' hK=>by
  have:=hK.blk hBx (by simp;have:=HGU.out;omega)
  exact⟨this.cell 0,this.cell 1⟩
 have HMA:=hd_ (fun X (h:z4d X U g m)=>zq9 U g m X h (by omega))
 have HTO:=hd_ (fun X (h:z49 [g] W1 X)=>zit D (zL Ar D.length cr) dr X (z3w.kn HR1 h HT1.nosb) (by have:=HDL.out;omega))
 have HNX:=hd_ (fun X (h:z4d X U g (m+1))=>z4e U g (m+1) (zir D+2) X h (by omega) (by omega))
 have HWA:=hd_ (fun k (es:List zdk) v (j:Int) X (hk:k<8) (hes:es.map zdk.pl=zeb k) (hE:zdo X v es) (h:z49 [g] W1 X)=>ztc D n es j (zL Ar D.length cr) dr v X (HE1.keptT HT1 h) (z3w.kn HR1 h HT1.nosb) hE HD HDL (zej hk hes).1);have q2:IntKind.i64.wrap (zir D+2)=zir D+2:=by rw[IntKind.wrap_i64];omega
 clear he hT hU hR hD hn hBx hA hns hg htop;go_cut [5] (fun v wx=>Hid (∃(WL:List Hav) (B:Nat),WlOk WL/\wx.ownsRow B 84 3 v WL.length (WL.flatMap Hav.cells)/\w.heap.size<=B/\B<=wx.heap.size/\z4d wx U g (m+2)/\z49 [g] w wx))
 case first =>
  go_region_held3 (fun w'=>z49 [g] W1 w'/\w'.cell? ⟨w.heap.size,0,none⟩=some (.slice Ar D.length cr)/\w'.cell? ⟨w.heap.size,1,none⟩=some dr)
   ((refine z3t ?_ (HC _);first | with_reducible assumption | with_reducible exact z49.kw (Zb _ _) | with_reducible exact z49.kw (Zb _ _).drew))
   (first
    | (go_at_call 11;(with_reducible refine (HMA.out _ (by first | with_reducible exact HT1.out | with_reducible exact HT1.out.kw (Zb _ _).drew)).mono ?_);rintro e' w2 ⟨k,es,v,rfl,hk8,hes,hE2,hT2,hK2⟩;have hS2:z49 [g] W1 w2:=by first | with_reducible exact hK2 | exact (z49.kw (Zb _ _).drew).trans hK2)
    | (go_at_call 13;(with_reducible refine (HTO.out _ hS2).mono ?_);rintro e' w3 ⟨rfl,hb3⟩;have hS3:z49 [g] W1 w3:=hS2.ku hb3;have hT3:=hT2.kw hb3)
    | (go_at_call 12;(with_reducible refine (HNX.out _ hT3).mono ?_);rintro e' w4 ⟨j,rfl,hj,hT4,hK4⟩;have hS4:=hS3.trans hK4)
    | (go_at_call 7;(with_reducible refine (HWA.out k es v j w4 hk8 hes (hE2.kn ((z49.kw hb3).trans hK4) hT2.nosb) hS4).mono ?_);rintro e' w5 ⟨v5,rfl,hown,hb5⟩;have hS5:z49 [g] W1 w5:=hS4.ku hb5))
  all_goals
   go_wp2_with fail;go_meet
   exact hd_ ⟨z8j D (zdy es) j,w4.heap.size,wl_ok HD HN hk8 hes,hown,Zf HA.size hS4.size,hb5.size,hT4.kw hb5,HA.trans hS5⟩
 case rest =>
  obtain⟨WL,B,hW,hown,hB,hB2,hT,hK⟩:=hcut.out;obtain⟨A5,c5,rfl⟩:=z0o hown;have hl6:=hW.len;have HW:=hd_ hW;have HI0:Hid (HlSt w wc U g (m+2) B wc.heap.size WL 0 [] (zL A5 WL.length c5) none 0):=hd_ ⟨hK,hT,⟨_,hown,fun j _=>rfl⟩,Zv _ _ _ _,hB,fun x e=>(hown.lt x e).2,HGU.1,HGU.2,Zd _⟩;have hI0sz:=hK.size;clear hcut hW hown hB hB2 hT hK HE1 HT1 HR1 HC HMA HTO HNX HWA q2;have HGU0:Hid (w.heap.size<=wc.heap.size):=hd_ hI0sz;generalize wc.heap.size=B2 at HI0 HGU0;go_wp2_with fail;go_loopw [7,8] (fun ov i wr=>∃(k:Nat) (out:List Hav) (A2:zP) (c2:Nat),ov=zL A2 out.length c2/\i=zI k/\k<=WL.length/\Hid (HvSt WL k out/\∃ m',m'<=m+2+4 * k/\HlSt w wr U g m' B B2 WL k out (zL A5 WL.length c5) A2 c2)) (fun _ i _=>WL.length - (intOf i).toNat)
  exact⟨0,[],none,0,rfl,rfl,Zg _,hd_ ⟨hv_0 WL,m+2,by omega,HI0⟩⟩
  obtain⟨k,out,A2,c2,rfl,rfl,hk,HI⟩:=hrel;clear HI0;by_cases hlt:k<WL.length
  ·obtain⟨hHS,m',hm',hHL⟩:=HI.out;obtain⟨gv,c,elv,hHR⟩:=hHL.into hlt;injection elv with e1 e2 e3
   subst e1 e3;have HXE:=hd_ (fun y (hy:zio WL[k] y) (hn:∀ x∈out,x.loc≠y.loc)=>hv_put hHS HW.ok hlt hy hn);have HXL:Hid (z5f (WL[k]).loc=true/\1<=(WL[k]).num/\(WL[k]).num<=100000):=hd_ ⟨(z82 (HW.ok.ok _ (Za hlt))).2.1,HW.num _ (Za hlt)⟩;have HHS:=hd_ (Zi (hv_skip hHS) (Zf hHS.len hk));have HLT:=hd_ hlt;have HR:=hd_ hHR;have HM:=hd_ hm';have hm2:m'<=100030:=by omega
   have HX:=hd_ (z4e U g m' 6 wr hHR.tape (by omega) (by omega))
   generalize WL[k]=x at HR HXE HXL;clear hHS hHL hHR hm' e2 HI;go_wp2_with fail;refine HX.mono ?_;rintro e w2 ⟨k1,rfl,hk1,hT2,hK2⟩;dsimp only;have HR2:=hd_ (HR.next hK2 hT2);clear hk1 hT2 hK2 HX HR;by_cases h1:k1=0
   ·have q1:(k1 == 0)=true:=by simpa using h1
    have HB:=hd_ HR2.back;clear h1;go_wp2_with fail;go_roundw
    exact⟨k+1,out,A2,c2,rfl,by go_num,by have:=HLT.out;omega,hd_ ⟨HHS.1,m'+1,by have:=HM.out;omega,HB⟩⟩
    have:=HLT.out;simp [intOf];omega
   ·have q1:(k1 == 0)=false:=by simpa using h1
    have HX:=hd_ (z4e U g (m'+1) 6 w2 HR2.tape (by omega) (by omega))
    clear h1;go_wp2_with fail;refine HX.mono ?_;rintro e w3 ⟨k2,rfl,hk2,hT3,hK3⟩;dsimp only;have HR3:=hd_ (HR2.next hK3 hT3);obtain⟨b,q2⟩:∃ b,(k2 == 0)=b:=⟨_,rfl⟩;clear hk2 hT3 hK3 HX HR2 q1;go_upto_if 35 with fail
    clear q2;go_cut [] (fun wx=>Hid (∃ y,zpx w wx U g (m'+1+1) B B2 WL k out gv c5 A2 c2 y/\y.kt=x.kt/\y.loc=x.loc/\1<=y.num/\y.num<=x.num+1))
    case first =>
     obtain⟨⟨y0,y1,y2⟩,f1,f2⟩:=HR3.out.cells;cases b with
     | true =>
      have q3:IntKind.i64.wrap (x.num+1)=x.num+1:=by rw[IntKind.wrap_i64];have:=HXL.out;omega
      have hzl:(k:Int)<(WL.length:Int):=by have:=HLT.out;omega
      have HS:=hd_ (HR3.set_ 1 (zI (x.num+1)) ⟨x.kt,x.num+1,x.loc⟩ (by omega) rfl)
      go_wp2_with fail;go_meet
      exact hd_ ⟨⟨x.kt,x.num+1,x.loc⟩,HS,rfl,rfl,by have:=HXL.out;show 1<=x.num+1;omega,Int.le_refl _⟩
     | false =>
      go_wp2_with fail;go_meet
      exact hd_ ⟨x,HR3,rfl,rfl,HXL.2.1,by omega⟩
    case rest =>
     obtain⟨y,hy,hy1,hy2,hy3⟩:=hcut.out;have HY:=hd_ hy;have HYF:=hd_ (Zi hy1 (Zi hy2 hy3));have HLO:=hd_ (ziv wc);clear hcut hy hy1 hy2 hy3 HR3;go_wp2_with fail;refine HLO.mono ?_;rintro e w4 ⟨rfl,hw4⟩;dsimp only;have hb4:zB wc w4:=hw4 ▸ zR;have HBL:Hid (Blk w4 wc.heap.size 9 (zim.map .string)):=hd_ (hw4 ▸ z0l wc _ _);have HGL:Hid (wc.heap.size∉[g]):=hd_ (by have:=HY.out.kept.size;have:=HY.out.gU;simp;omega)
     have HR4:=hd_ (HY.ku hb4);have HX:=hd_ (z4e U g (m'+1+1) 8 w4 HR4.tape (by omega) (by omega))
     clear hw4 hb4 HLO HY;generalize wc.heap.size=gl at HBL HGL |-;go_wp2_with fail;refine HX.mono ?_;rintro e w5 ⟨k3,rfl,hk3,hT5,hK5⟩;dsimp only;obtain⟨j3,rfl⟩:∃ j:Nat,k3=j:=⟨k3.toNat,by have:=hk3.1;omega⟩
     have hj8:j3<8:=by have:=hk3.2.1 (by omega);omega
     have HR5:=hd_ (HR4.next hK5 hT5);have z0:w5.cell? ⟨gl,j3,none⟩=some (zS (zim[j3]'hj8)):=((hK5.blk HBL HGL).cell j3).trans (by rw[ZA,Ze (show j3<zim.length from hj8)];rfl)
     have HQ:Hid (z5f (zim[j3]'hj8)=true):=hd_ (zin _ (Za _));generalize zim[j3]'hj8=q at z0 HQ;have hz8:(j3:Int)<8:=by omega
     have HX6:=hd_ (z4e U g (m'+1+1+1) 6 w5 HR5.tape (by omega) (by omega))
     clear hk3 hT5 hK5 HX HR4 HBL HGL hj8;go_wp2_with fail;refine HX6.mono ?_;rintro e w3 ⟨k2,rfl,hk2,hT3,hK3⟩;dsimp only;have HR3:=hd_ (HR5.next hK3 hT3);obtain⟨b,q2⟩:∃ b,(k2 == 0)=b:=⟨_,rfl⟩;clear hk2 hT3 hK3 HX6 HR5 z0 hz8;go_upto_if 51 with fail
     clear q2;go_cut [] (fun wx=>Hid (∃ y,zpx w wx U g (m'+1+1+1+1) B B2 WL k out gv c5 A2 c2 y/\zio x y))
     case first =>
      obtain⟨⟨y0,y1,y2⟩,f1,f2⟩:=HR3.out.cells;cases b with
      | true =>
       have hzl:(k:Int)<(WL.length:Int):=by have:=HLT.out;omega
       have HS:=hd_ (HR3.set_ 2 (zS q) ⟨y.kt,y.num,q⟩ (by omega) rfl)
       go_wp2_with fail;go_meet
       exact hd_ ⟨⟨y.kt,y.num,q⟩,HS,HYF.1,HQ,HYF.2.2⟩
      | false =>
       go_wp2_with fail;go_meet
       exact hd_ ⟨y,HR3,HYF.1,by rw[HYF.out.2.1];exact HXL.1,HYF.2.2⟩
     case rest =>
      obtain⟨y',hy,hy1⟩:=hcut.out;have HY:=hd_ hy;have HTO:=hd_ hy1;clear hcut hy hy1 HR3 HYF HQ;have HAT:Hid (Calls prog 39 #[zL A2 out.length c2,zS y'.loc] wc fun e w'=>∃ zz:Hav,e=.returned (.tuple #[.agg #[zS zz.kt,zI zz.num,zS zz.loc],.bool (z73 Hav.loc out y'.loc).isSome])/\zB wc w'):=hd_ ((zqc out _ y'.loc wc (Row.of_own HY.outr) (by have:=HHS.out.2;omega)).mono fun e w' h=>⟨_,h⟩)
      obtain⟨⟨y0,y1,y2⟩,-,-⟩:=HY.out.cells;have hzl:(k:Int)<(WL.length:Int):=by have:=HLT.out;omega
      cases ho:z73 Hav.loc out y'.loc with
      | none =>
       rw[ho] at HAT;have HNL:=hd_ (z79.1 ho);clear ho;go_wp2_with fail;refine HAT.mono ?_;rintro e w8 ⟨zz,rfl,hb⟩;dsimp only;have HR9:=hd_ ((HY.ku hb).ku ((Zb w8.heap.size w8).alloc (Zd _) (zC #[zS zz.kt,zI zz.num,zS zz.loc] 84)));clear hb y0 y1 y2 HAT HY;go_upto_region 13 with fail;generalize w8.alloc (zC #[zS zz.kt,zI zz.num,zS zz.loc] 84)=W9 at HR9 |-;generalize w8.heap.size=g9;obtain⟨⟨y0,y1,y2⟩,-,-⟩:=HR9.out.cells;have HRA:=hd_ (HR9.ku ((Zb W9.heap.size W9).alloc (Zd _) (zC #[zS y'.kt,zI y'.num,zS y'.loc] 84)));have hrow:=z0i W9 [zS y'.kt,zI y'.num,zS y'.loc] 84 3 1 rfl (by unfold maxLen;omega) W9.heap.size rfl
       have hol:out.length<=6:=by have:=HHS.out.2;omega
       go_wp2_with (at_builtin;refine z0j rfl rfl z6g HRA.outr rfl hrow rfl (by simp [Value.oneCell']) (by omega) (by unfold maxLen;omega) HRA.b2 ?_;intro A' c' w6 hown hgr hob)
       have HN:=hd_ (HRA.push hown hgr);have HV:=hd_ (HXE y' HTO HNL);clear hown hgr hob hrow y0 y1 y2;go_wp2_with fail;go_roundw
       exact⟨k+1,out++[y'],A',c',by simp,by go_num,by have:=HLT.out;omega,hd_ ⟨HV,m'+1+1+1+1,by have:=HM.out;omega,HN⟩⟩
       have:=HLT.out;simp [intOf];omega
      | some hz =>
       rw[ho] at HAT;clear ho;go_wp2_with fail;refine HAT.mono ?_;rintro e w8 ⟨zz,rfl,hb⟩;dsimp only;have HR9:=hd_ ((HY.ku hb).ku ((Zb w8.heap.size w8).alloc (Zd _) (zC #[zS zz.kt,zI zz.num,zS zz.loc] 84))).back;clear hb y0 y1 y2 HAT HY;go_wp2_with fail;go_roundw
       exact⟨k+1,out,A2,c2,rfl,by go_num,by have:=HLT.out;omega,hd_ ⟨HHS.1,m'+1+1+1+1,by have:=HM.out;omega,HR9⟩⟩
       have:=HLT.out;simp [intOf];omega
  ·have hke:k=WL.length:=by omega
   obtain⟨hHS,m',hm',hHL⟩:=HI.out;have HF:Hid (HvPost w U g (m+26) (.returned (zL A2 out.length c2)) wr):=hd_ ⟨_,out,rfl,Row.of_own hHL.outr,hv_end hHS,⟨by have:=hHS.len;omega,fun x hx=>by obtain⟨j,hj,-,e⟩:=hHS.of x hx;rw[e];exact HW.six _ (Za hj)⟩,hHL.tape.mono (by omega),hHL.kept,fun x e=>Zf HGU0 (hHL.outr.lt x e).1⟩
   clear hHS hHL HI;subst hke;go_wp2_with fail;go_ret;exact HF
theorem WsB.depot {w wr:zW}{U g gw m:Nat}{D D':List Rev}{dv dr cv dv' dr':zV}{l:List Cnk}(h:WsB w wr U g gw m D dv dr cv l)(hR:z3w wr dv' D')(hf:∀ x,dv'.ownBlock=some x->x≠gw/\x<wr.heap.size/\cv.ownBlock≠some x):
  WsB w ((wr.setCell ⟨gw,0,none⟩ dv').setCell ⟨gw,1,none⟩ dr') U g gw m D' dv' dr' cv l:=by
 have hle:=h.le;have hb:Below w.heap.size wr ((wr.setCell ⟨gw,0,none⟩ dv').setCell ⟨gw,1,none⟩ dr'):=((Zb _ _).setCell (p:=⟨gw,0,none⟩) hle dv').setCell (p:=⟨gw,1,none⟩) hle dr';have hc:cv.ownBlock≠some gw:=fun e=>by have:=(h.cnk.lt _ e).1;omega
 have hd:dv'.ownBlock≠some gw:=fun e=>(hf gw e).1 rfl;exact⟨h.kept.onto hb,h.tape.onto h.UU hb,(h.box.set_ 0 dv').set_ 1 dr',z5c (z5c h.cnk (p:=⟨gw,0,none⟩) hc dv') (p:=⟨gw,1,none⟩) hc dr',Row.set_far (Row.set_far hR hd) hd,h.gU,h.UU,h.le,fun x hx=>⟨(hf x hx).1,by simp;exact (hf x hx).2.1,(hf x hx).2.2⟩⟩
def MkPost (w:zW)(U g m:Nat)(e:Ending)(w':zW):Prop:=∃(Ar Aq:zP) (cr cq:Nat) (cv:zV) (D:List Rev) (l:List Cnk),
 e=.returned (.agg #[zL Ar D.length cr,zL Aq 0 cq,cv])/\z3w w' (zL Ar D.length cr) D/\(∀ x,(zL Ar D.length cr).ownBlock=some x->w.heap.size<=x)/\zoo D 30/\(∀ r∈D,0<=r.chg/\r.chg<=100)/\z4d w' U g m/\z49 [g] w w'/\w'.ownsRow w.heap.size 210 3 cv l.length (l.flatMap Cnk.cells)/\l.length<=30
structure MkI (w wr:zW)(U g gr gw m j:Nat)(num:Int):Prop where
 it:∃(Ar Aq:zP) (cr cq:Nat) (cv:zV) (D:List Rev) (l:List Cnk),WsB w wr U g gw (m+71 * j) D (zL Ar D.length cr) (zL Aq 0 cq) cv l/\z3y w (zL Aq 0 cq) []/\(∀ x,(zL Ar D.length cr).ownBlock=some x->gw<x)/\zoo D (6 * j)/\(∀ r∈D,0<=r.chg/\r.chg<=num)/\l.length<=6 * j
 num0:0<=num
 numj:num<=3 * j
 res:Blk wr gr 47 [zL none 0 0,zL none 0 0,zL none 0 0]
theorem zoo.mono {D:List Rev}{n n':Nat}(h:zoo D n)(hn:n<=n'):zoo D n':=⟨Zf h.len hn,h.six,h.num⟩
theorem mk_next {w w3 w7:zW}{U g gr gw m j:Nat}{num num':Int}{D:List Rev}{Ar Aq A A2:zP}{cr cq n c c2:Nat}{cv cv':zV}{n0:Nat}{e0:Int}{g8:Nat}{l':List Cnk}{es:List Edt}
  (hP:MkP w w3 w7 U g gw (m+71 * (j+1)) D (zL Ar D.length cr) (zL Aq 0 cq) cv n0 num' A A2 n c c2 e0 g8 cv' l' es) (hn0:n0<=6 * j) (hQ:z3y w (zL Aq 0 cq) []) (hfr:∀ x,(zL Ar D.length cr).ownBlock=some x->gw<x) (hD:zoo D (6 * j)) (hch:∀ r∈D,0<=r.chg/\r.chg<=num)
  (h0:0<=num) (h1:num<=num') (h2:num'<=3 * ((j:Int)+1)) (hr:Blk w7 gr 47 [zL none 0 0,zL none 0 0,zL none 0 0]) (hgr:gr≠gw) (hgw:gw<w3.heap.size):
  (e0≠0->MkI w w7 U g gr gw m (j+1) num')/\(e0=0->MkI w ((w7.setCell ⟨gw,0,none⟩ (zL A n c)).setCell ⟨gw,1,none⟩ (zL A2 0 c2)) U g gr gw m (j+1) num'):=by
 have hl:=hP.len;refine⟨fun he=>⟨⟨Ar,Aq,cr,cq,cv',D,l',hP.ws,hQ,hfr,hD.mono (by omega),fun r hr=>⟨(hch r hr).1,Int.le_trans (hch r hr).2 h1⟩,by omega⟩,by omega,by omega,hr⟩,fun he=>?_⟩
 rcases hP.ok with h | ⟨-,hn,hR,hb,hQ2⟩
 ·exact absurd he h
 ·have hfar:∀ x,(zL A n c).ownBlock=some x->x≠gw/\x<w7.heap.size/\cv'.ownBlock≠some x:=fun x hx=>⟨by have:=(hb x hx).1;omega,(hb x hx).2,(hP.far x hx).1⟩
  have hS:=hP.ws.depot (dr':=zL A2 0 c2) hR hfar;have hDp:zoo (D++es.map (zgg num')) (6 * j+es.length):=dp_app hD num' (fun x hx=>by obtain⟨i,hi,-,e⟩:=hP.edk.six x hx;rw[<- e];exact Za hi) hP.edk.nd hP.edk.base
  have hel:=hP.edk.len;have hlen:(D++es.map (zgg num')).length=n:=by rw[Zc,Zk,hn]
  refine⟨⟨A,A2,c,c2,cv',D++es.map (zgg num'),l',by rw[hlen];exact hS,zrq hQ2,fun x hx=>?_,hDp.mono (by omega),fun r hr=>?_,by omega⟩,by omega,by omega,(hr.far (p:=⟨gw,0,none⟩) (by exact hgr.symm) _).far (p:=⟨gw,1,none⟩) (by exact hgr.symm) _⟩
  ·rw[hlen] at hx;have:=(hb x hx).1;omega
  ·rcases Zy.1 hr with hr | hr
   ·exact⟨(hch r hr).1,Int.le_trans (hch r hr).2 h1⟩
   ·obtain⟨x,-,rfl⟩:=ZD.1 hr;exact⟨by show 0<=num';omega,Int.le_refl _⟩
theorem zrr (U g m:Nat)(w:zW)(he:Env w)(hT:z4d w U g m)(hU:U<=w.heap.size)(hm:m<=50000):
  Calls prog 10 #[.pointer (some ⟨g,0,none⟩),zI 5] w (MkPost w U g (m+400)):=by
 have hg:=hT.ltU;obtain⟨W1,hW1⟩:∃ W,W=(w.alloc (zC #[zL none 0 0,zL none 0 0,zL none 0 0] 47)).alloc (zC #[zL none 0 0,zL none 0 0,zL none 0 0] 47):=⟨_,rfl⟩;have hb1:zB w W1:=by rw[hW1];exact (zR).alloc (by simp) _
 have hr1:Blk W1 w.heap.size 47 [zL none 0 0,zL none 0 0,zL none 0 0]:=by rw[hW1];exact (z0l w _ _).alloc _
 have hx1:Blk W1 (w.heap.size+1) 47 [zL none 0 0,zL none 0 0,zL none 0 0]:=by
  rw[hW1];have:=z0l (w.alloc (zC #[zL none 0 0,zL none 0 0,zL none 0 0] 47)) [zL none 0 0,zL none 0 0,zL none 0 0] 47;simp only[Zl] at this
  exact this
 have hT1:=hT.kw hb1;have HW:=hd_ hW1;have HN1:=hd_ (z4e U g m 6 W1 hT1 (by omega) (by omega))
 have HN2:=hd_ (fun m' X (h:z4d X U g m') (hm':m'<=60000)=>z4e U g m' 2 X h (by omega) (by omega))
 have HENV:Hid (∀ X,z49 [g] w X->Env X):=hd_ fun X hX=>he.keptT hT hX;have HGU:Hid (g<U/\U<=w.heap.size):=hd_ ⟨hg,hU⟩;have H0:Hid (∀ X,z49 [g] W1 X->z4d X U g (m+1)->MkI w X U g w.heap.size (w.heap.size+1) (m+1) 0 0):=hd_ fun X hX hTX=>by
  refine⟨⟨none,none,0,0,zL none 0 0,[],[],⟨(z49.kw hb1).trans hX,hTX.mono (by omega),hX.blk hx1 (by simp;omega),Zv _ _ _ _,z3w.nil_ _,hg,hU,by omega,(fun x hx=>by cases hx)⟩,z3y.nil_ _,(fun x hx=>by cases hx),dp_nil,(fun r hr=>by cases hr),by simp⟩,Int.le_refl _,by omega,hX.blk hr1 (by simp;omega)⟩
 clear he hT hU hg hT1 hb1 hr1 hx1 hW1;go_enter func10,ntmps10;go_upto_region 3 with fail;rw[<- HW.out];go_wp2_with fail;refine HN1.mono ?_;rintro e w2 ⟨K,rfl,hK,hT2,hK2⟩;dsimp only;have HI0:=hd_ (H0 w2 hK2 hT2);obtain⟨k0,rfl,hk0⟩:∃ k0:Nat,K=k0/\k0<6:=⟨K.toNat,by have:=hK.1;omega,by have:=hK.1;have:=hK.2.1 (by omega);omega⟩
 clear hT2 hK2 H0 HN1 hK;go_upto_block 0 with fail
 generalize hgw:w.heap.size+1=gw at HI0;have HGW:=hd_ hgw;go_cut [] (fun wx=>∃(j:Nat) (num:Int),j<=5/\Hid (MkI w wx U g w.heap.size gw (m+1) j num))
 case first =>
  go_wp2_with fail;go_loopw [6,7] (fun s6 s7 wr=>∃(k j:Nat) (num:Int),s6=zI num/\s7=zI k/\k+j<=5/\Hid (MkI w wr U g w.heap.size gw (m+1) j num)) (fun _ s7 _=>(intOf s7).toNat)
  exact⟨k0,0,0,rfl,rfl,by omega,HI0⟩
  obtain⟨k,j,num,rfl,rfl,hkj,HI⟩:=hrel;by_cases hk:0<k
  ·obtain⟨Ar,Aq,cr,cq,cv,D,l,hS,hQr,hfr,hDp,hch,hln⟩:=HI.out.it;have hn0:=HI.out.num0;have hnj:=HI.out.numj;have HR:=hd_ HI.res;have HS:=hd_ hS;have HNX:=hd_ (HN2 (m+1+71 * j) wr hS.tape (by omega))
   have HD:=hd_ (Zi hQr (Zi hfr (Zi hDp (Zi hch hln))));have q:decide ((0:Int)<(k:Int))=true:=by simp;omega
   clear hS hQr hfr hDp hch hln HI;go_wp2_with fail;refine HNX.mono ?_;rintro e w3 ⟨r,rfl,hr,hT3,hK3⟩;dsimp only;obtain⟨hr0,hr2⟩:0<=r/\r<2:=⟨hr.1,hr.2.1 (by omega)⟩
   have HS3:=hd_ (HS.next hK3 hT3);have HK3:=hd_ hK3;have hwa:IntKind.i64.wrap (1+r)=1+r:=by rw[IntKind.wrap_i64];omega
   have hwb:IntKind.i64.wrap (num+(1+r))=num+(1+r):=by rw[IntKind.wrap_i64];omega
   have HNM:Hid (num<=num+(1+r)/\num+(1+r)<=3 * ((j:Int)+1)):=hd_ ⟨by omega,by omega⟩
   clear hr hT3 hK3 HNX hr0 hr2;go_upto_region 7 with fail;clear hwa hwb;generalize num+(1+r)=num' at HNM |-;have hdl:D.length<=6 * j:=HD.out.2.2.1.len;refine mkR7 _ (by kernel_rfl) _ num' HS3 (by have:=HD.out.2.2.2.2;omega) (by omega) (by omega) HD.2.2.1 (by omega) HENV HD.1 ?_
   intro eD eE eF eG eH eI eJ eK eL A A2 n c c2 e0 g8 cv' l' es w7 HP;have HZ:Hid (gw<w3.heap.size/\w.heap.size<gw):=hd_ ⟨HS3.box.lt,by have:=HGW.out;omega⟩
   have HR7:Hid (Blk w7 w.heap.size 47 [zL none 0 0,zL none 0 0,zL none 0 0]):=hd_ (by
    have hg1:=HGU.out;have hne:cv.ownBlock≠some w.heap.size:=fun e=>by have:=(HS3.out.cnk.lt _ e).1;have:=HZ.out.2;omega
    exact HP.frm.blk (HK3.blk HR (by simp;omega)) (by omega) (by have:=HZ.out.2;omega) hne)
   have HM:Hid ((e0≠0->MkI w w7 U g w.heap.size gw (m+1) (j+1) num')/\(e0=0->MkI w ((w7.setCell ⟨gw,0,none⟩ (zL A n c)).setCell ⟨gw,1,none⟩ (zL A2 0 c2)) U g w.heap.size gw (m+1) (j+1) num')):=hd_ (mk_next (num:=num) (by rw[show m+1+71 * (j+1)=m+1+71 * j+1+70 by omega];exact HP) HD.2.2.2.2 HD.1 HD.2.1 HD.2.2.1 HD.2.2.2.1 hn0 HNM.1 HNM.2 HR7 (by have:=HZ.out.2;omega) HZ.1)
   obtain⟨b0,b1,-,-⟩:=box2 HP.out.box;have c0:w7.cell? ⟨gw,0,none⟩=some (.slice Ar D.length cr):=HP.ws.box.cell 0;have c1:w7.cell? ⟨gw,1,none⟩=some (.slice Aq 0 cq):=HP.ws.box.cell 1;have f0:w7.frozen? ⟨gw,0,none⟩=false:=HP.ws.box.frozen 0;have f1:w7.frozen? ⟨gw,1,none⟩=false:=HP.ws.box.frozen 1;clear HP HR7 HR HS HS3 HK3;obtain⟨kk,rfl⟩:∃ kk,k=kk+1:=⟨k - 1,by omega⟩
   have hwk:IntKind.i64.wrap (((kk+1:Nat):Int) - 1)=(kk:Int):=by rw[IntKind.wrap_i64];omega
   by_cases he:e0=0
   ·have q0:(e0 == 0)=true:=by simpa using he
    have HX:=hd_ (HM.2 he);clear he HM;go_wp2_with fail;go_roundw
    exact⟨kk,j+1,num',rfl,by go_num,by omega,HX⟩
    simp [intOf]
   ·have q0:(e0 == 0)=false:=by simpa using he
    have HX:=hd_ (HM.1 he);clear he HM;go_wp2_with fail;go_roundw
    exact⟨kk,j+1,num',rfl,by go_num,by omega,HX⟩
    simp [intOf]
  ·have hk0:k=0:=by omega
   subst hk0;have q:decide ((0:Int)<((0:Nat):Int))=false:=by simp
   go_wp2_with fail;go_meet
   exact⟨j,num,by omega,HI⟩
 case rest=>
  obtain⟨j,num,hj,HI⟩:=hcut;obtain⟨Ar,Aq,cr,cq,cv,D,l,hS,hQr,hfr,hDp,hch,hln⟩:=HI.out.it;obtain⟨A3,c3,rfl⟩:=z0o hS.cnk;have hnj:=HI.out.numj;have c0:wc.cell? ⟨gw,0,none⟩=some (.slice Ar D.length cr):=hS.box.cell 0;have c1:wc.cell? ⟨gw,1,none⟩=some (.slice Aq 0 cq):=hS.box.cell 1;have c2:wc.cell? ⟨gw,2,none⟩=some (.slice A3 l.length c3):=hS.box.cell 2;have r0:wc.cell? ⟨w.heap.size,0,none⟩=some (.slice none 0 0):=HI.res.cell 0;have r1:wc.cell? ⟨w.heap.size,1,none⟩=some (.slice none 0 0):=HI.res.cell 1;have r2:wc.cell? ⟨w.heap.size,2,none⟩=some (.slice none 0 0):=HI.res.cell 2;have f0:wc.frozen? ⟨w.heap.size,0,none⟩=false:=HI.res.frozen 0;have f1:wc.frozen? ⟨w.heap.size,1,none⟩=false:=HI.res.frozen 1;have f2:wc.frozen? ⟨w.heap.size,2,none⟩=false:=HI.res.frozen 2;have HR:=hd_ HI.res;have hw:=HGW.out;have hne:w.heap.size≠gw:=by omega
  have d1:(zL Ar D.length cr).ownBlock≠some w.heap.size:=fun e=>by have:=hfr _ e;omega
  have d2:(zL A3 l.length c3).ownBlock≠some w.heap.size:=fun e=>by have:=(hS.cnk.lt _ e).1;omega
  have hS3:=((hS.set_at (u:=zL Ar D.length cr) (i:=0) (Zd _) hne d2 d1).set_at (u:=zL Aq 0 cq) (i:=1) (Zd _) hne d2 d1).set_at (u:=zL A3 l.length c3) (i:=2) (Zd _) hne d2 d1;have hR3:=((HR.out.set_ 0 (zL Ar D.length cr)).set_ 1 (zL Aq 0 cq)).set_ 2 (zL A3 l.length c3);have HF:Hid (MkPost w U g (m+400) (.returned (.agg #[zL Ar D.length cr,zL Aq 0 cq,zL A3 l.length c3])) (((wc.setCell ⟨w.heap.size,0,none⟩ (zL Ar D.length cr)).setCell ⟨w.heap.size,1,none⟩ (zL Aq 0 cq)).setCell ⟨w.heap.size,2,none⟩ (zL A3 l.length c3))):=hd_ ⟨Ar,Aq,cr,cq,_,D,l,rfl,hS3.revs,fun x hx=>by have:=hfr x hx;omega,hDp.mono (by omega),fun r hr=>⟨(hch r hr).1,by have:=(hch r hr).2;omega⟩,hS3.tape.mono (by omega),hS3.kept,z5a hS3.cnk (by omega),by omega⟩
  have HR3:=hd_ hR3;clear hS hQr hfr hDp hch hln HI hnj hS3 hR3 d1 d2 hne hw HR;go_wp2_with fail;generalize ((wc.setCell ⟨w.heap.size,0,none⟩ (zL Ar D.length cr)).setCell ⟨w.heap.size,1,none⟩ (zL Aq 0 cq)).setCell ⟨w.heap.size,2,none⟩ (zL A3 l.length c3)=W9 at HF HR3 |-;have y0:W9.cell? ⟨w.heap.size,0,none⟩=some (.slice Ar D.length cr):=HR3.cell 0;have y1:W9.cell? ⟨w.heap.size,1,none⟩=some (.slice Aq 0 cq):=HR3.cell 1;have y2:W9.cell? ⟨w.heap.size,2,none⟩=some (.slice A3 l.length c3):=HR3.cell 2;refine bodyPost_ret (v:=.agg #[zL Ar D.length cr,zL Aq 0 cq,zL A3 l.length c3]) (by simp [results,results10,go_sem,y0,y1,y2]) rfl HF
structure ScOk (D:List Rev)(k:Nat)(es:List zdk)(ch:Int)(hs:List Hav)(op dt:List zA):Prop where
 dp:zoo D 30
 chg:∀ r∈D,0<=r.chg/\r.chg<=100
 k8:k<8
 es:es.map zdk.pl=zeb k
 ch:-1<=ch/\ch<=200
 hv:z81 hs
 hl:hs.length<=6
 h6:∀ x∈hs,x.kt∈z8e
 opl:op.length<=2
 dtl:dt.length<=2
 op6:∀ x∈op,x∈z8e
 dt8:∀ x∈dt,x∈zim
structure zrs (X:zW)(D:List Rev)(es:List zdk)(hs:List Hav)(op dt:List zA)(dv mv hv ov tv:zV):Prop where
 revs:z3w X dv D
 ents:zdo X mv es
 havs:z5s X hv hs
 opn:z20 X ov op
 drt:z20 X tv dt
theorem zrs.kn {S:List Nat}{X X':zW}{D:List Rev}{es:List zdk}{hs:List Hav}{op dt:List zA}{dv mv hv ov tv:zV}(h:zrs X D es hs op dt dv mv hv ov tv)(hK:z49 S X X')(hS:∀ g∈S,zk6 X g):zrs X' D es hs op dt dv mv hv ov tv:=
 ⟨h.revs.kn hK hS,h.ents.kn hK hS,h.havs.kn hK hS,h.opn.kn hK hS,h.drt.kn hK hS⟩
theorem zrs.kw {X X':zW}{D:List Rev}{es:List zdk}{hs:List Hav}{op dt:List zA}{dv mv hv ov tv:zV}(h:zrs X D es hs op dt dv mv hv ov tv)(hb:zB X X'):zrs X' D es hs op dt dv mv hv ov tv:=
 ⟨h.revs.kw hb,h.ents.kw hb,h.havs.kw hb,h.opn.kw hb,h.drt.kw hb⟩
theorem Row.sb {w:zW}{s n:Nat}{v:zV}{xs:List zV}(h:Row w s v n xs):SbV v=false:=by
 obtain⟨A,c,rfl,-⟩:=h;rfl
structure ScB (w X:zW)(U g g5 m:Nat)(D:List Rev)(es:List zdk)(ch:Int)(hs:List Hav)(op dt:List zA)(dv dr mv hv ov tv:zV):Prop where
 at_:zrs X D es hs op dt dv mv hv ov tv
 box:Blk X g5 31 [dv,dr,mv,zI ch,hv,ov,tv]
 tape:z4d X U g m
 kept:z49 [g] w X
 sbr:SbV dr=false
 gU:g<U
 U5:U<=g5
 Uw:U<=w.heap.size
 w5:w.heap.size<=g5
section
variable {w X X' : zW} {U g g5 m m' : Nat} {D : List Rev} {es : List zdk} {ch : Int} {hs : List Hav} {op dt : List zA} {dv dr mv hv ov tv : zV}
theorem ScB.nosb (h:ScB w X U g g5 m D es ch hs op dt dv dr mv hv ov tv):∀ x∈[g5],zk6 X x:=fun x hx=>by
 rw[Zm] at hx;subst hx;refine zk6.blk h.box fun u hu=>?_;simp only[Zn,ZO,or_false] at hu
 rcases hu with rfl | rfl | rfl | rfl | rfl | rfl | rfl
 ·exact Row.sb h.at_.revs
 ·exact h.sbr
 ·exact Row.sb h.at_.ents.1
 ·rfl
 ·exact Row.sb h.at_.havs
 ·exact Row.sb h.at_.opn
 ·exact Row.sb h.at_.drt
theorem ScB.next (h:ScB w X U g g5 m D es ch hs op dt dv dr mv hv ov tv)(hK:z49 [g] X X')(hT:z4d X' U g m'):ScB w X' U g g5 m' D es ch hs op dt dv dr mv hv ov tv:=by
 have h1:=h.gU;have h2:=h.U5;exact⟨h.at_.kn hK h.tape.nosb,hK.blk h.box (by simp;omega),hT,h.kept.trans hK,h.sbr,h.gU,h.U5,h.Uw,h.w5⟩
theorem ScB.ku (h:ScB w X U g g5 m D es ch hs op dt dv dr mv hv ov tv)(hb:zB X X'):ScB w X' U g g5 m D es ch hs op dt dv dr mv hv ov tv:=h.next (z49.kw hb) (h.tape.kw hb)
theorem ScB.put (h:ScB w X U g g5 m D es ch hs op dt dv dr mv hv ov tv)(i:Nat)(u:zV){ch':Int}{hs':List Hav}{op' dt':List zA}{hv' ov' tv':zV}(he:[dv,dr,mv,zI ch,hv,ov,tv].set i u=[dv,dr,mv,zI ch',hv',ov',tv'])(h1:z5s X hv' hs')(h2:z20 X ov' op')(h3:z20 X tv' dt'):
  ScB w (X.setCell ⟨g5,i,none⟩ u) U g g5 m D es ch' hs' op' dt' dv dr mv hv' ov' tv':=by
 have hK:z49 [g5] X (X.setCell ⟨g5,i,none⟩ u):=z49.grown (z4a X g5 i u) (by simp)
 have hb:Below w.heap.size X (X.setCell ⟨g5,i,none⟩ u):=(Zb _ _).setCell (p:=⟨g5,i,none⟩) h.w5 u;have hs:=h.nosb;have ha:=h.at_;refine⟨⟨ha.revs.kn hK hs,ha.ents.kn hK hs,h1.kn hK hs,h2.kn hK hs,h3.kn hK hs⟩,?_,h.tape.onto h.Uw hb,h.kept.onto hb,h.sbr,h.gU,h.U5,h.Uw,h.w5⟩;have hX:=h.box.set_ i u;rw[he] at hX;exact hX
end
theorem zrt {D:List Rev}(h:∀ r∈D,0<=r.chg/\r.chg<=100):0<=zir D/\zir D<=100:=by
 unfold zir;cases hd:D.getLast? with
 | none=>exact⟨by decide,by decide⟩
 | some r=>exact h r (List.mem_of_getLast? hd)
theorem zru {w:zW}{ad:Addr}{u:zV}(h:w.cell? ad=some u):ad=⟨ad.block,ad.off,none⟩:=by
 obtain⟨b,o,s⟩:=ad;cases s with
 | none=>rfl
 | some k =>
  unfold World.cell? at h
  split at h
  ·simp at h
  ·cases h
theorem z4d.over {w w':zW}{U g m gr:Nat}{ch:Int}{a b d e f i:zV}(h:z4d w U g m)(hne:g≠gr)(hs:w.heap.size<=w'.heap.size)(hk:∀ x,x<w.heap.size->x≠gr->w'.heap[x]? = w.heap[x]?)
  (hb:Blk w gr 31 [zL none 0 0,zL none 0 0,zL none 0 0,zI 0,zL none 0 0,zL none 0 0,zL none 0 0]) (hb':Blk w' gr 31 [a,b,d,zI ch,e,f,i]):z4d w' U g m:=by
 obtain⟨l,A,c,t,h1,h2,h3,h4,h5⟩:=h;have hB:Blk w' g 44 [zL A l.length c,zI t]:=(hk g h1.lt hne).trans h1;obtain⟨A',c',e2,hc,hm,hl,h00,hx⟩:=id h3;rcases ZU l.length with h0 | h0
 ·exact⟨l,A,c,t,hB,h2,⟨A',c',e2,hc,hm,hl,h00,fun hn=>by omega⟩,h4,h5⟩
 ·obtain⟨ad,e3,hbk,hcell⟩:=hx h0;injection e2 with e4 e5 e6
  subst e4 e6;subst e3;by_cases hg:ad.block=gr
  ·obtain⟨hb0,ho0,hs0⟩:=ad;have hs1:hs0=none:=by
    cases hs0 with
    | none=>rfl
    | some k =>
     have e7:=zru (hcell 0 (zI (l[0]'h0)) (by rw[ZA,Ze h0];rfl))
     simp [Addr.add] at e7
   subst hs1;have hadd:∀ j,(⟨hb0,ho0,none⟩:Addr).add j=⟨hb0,ho0+j,none⟩:=fun j=>by unfold Addr.add;split <;> simp_all
   have c0:=hcell 0 (zI (l[0]'h0)) (by rw[ZA,Ze h0];rfl)
   have hat:∀(j:Nat) (n:Int),w.cell? ((⟨hb0,ho0,none⟩:Addr).add j)=some (zI n)->ho0+j=3/\(⟨hb0,ho0,none⟩:Addr).add j=⟨gr,3,none⟩:=fun j n hj=>by
    have hg':hb0=gr:=hg;rw[hadd,hg',hb.cell (ho0+j)] at hj;have h9:ho0+j=3:=by
     rcases (by omega:ho0+j=0\/ho0+j=1\/ho0+j=2\/ho0+j=3\/ho0+j=4\/ho0+j=5\/ho0+j=6\/7<=ho0+j) with q | q | q | q | q | q | q | q
     ·rw[q] at hj;simp at hj
     ·rw[q] at hj;simp at hj
     ·rw[q] at hj;simp at hj
     ·exact q
     ·rw[q] at hj;simp at hj
     ·rw[q] at hj;simp at hj
     ·rw[q] at hj;simp at hj
     ·rw[List.getElem?_eq_none (by simpa using q)] at hj;cases hj
    exact⟨h9,by rw[hadd,hg',h9]⟩
   have q0:=hat 0 _ c0;have hl1:l.length=1:=by
    rcases Nat.lt_or_ge 1 l.length with h6 | h6
    ·have c1:=hcell 1 (zI (l[1]'h6)) (by rw[ZA,Ze h6];rfl)
     have:=(hat 1 _ c1).1;have:=q0.1;omega
    ·omega
   rw[hl1] at hB hc;refine⟨[ch],some ⟨hb0,ho0,none⟩,c,t,hB,h2,⟨some ⟨hb0,ho0,none⟩,c,rfl,hc,hm,rfl,fun h=>(by cases h),fun _=>⟨_,rfl,Zq hbk hs,fun j u hu=>?_⟩⟩,h4,h5⟩
   cases j with
   | zero =>
    rw[q0.2,hb'.cell 3];simpa using hu
   | succ j=>simp at hu
  ·refine⟨l,some ad,c,t,hB,h2,⟨some ad,c,rfl,hc,hm,hl,h00,fun _=>⟨ad,rfl,by omega,fun j u hu=>?_⟩⟩,h4,h5⟩
   rw[<- hcell j u hu];refine World.cell?_of_block ?_;rw[z00];exact hk _ hbk hg
def MdPost (w:zW)(e:Ending)(w':zW):Prop:=∃(dv dr mv hv ov tv:zV) (U g:Nat) (D:List Rev) (k:Nat) (es:List zdk) (ch:Int) (hs:List Hav) (op dt:List zA),
 e=.returned (.tuple #[.agg #[dv,dr,mv,zI ch,hv,ov,tv],.pointer (some ⟨g,0,none⟩)])/\ScOk D k es ch hs op dt/\zrs w' D es hs op dt dv mv hv ov tv/\z4d w' U g 1000/\U<=w'.heap.size/\w.heap.size<=g/\zB w w'/\Env w'/\∃(Aq:zP) (cq:Nat),dr=zL Aq 0 cq
theorem zrv (L:List Int)(A:zP)(c:Nat)(w:zW)(he:Env w)(hL:Row w 1 (zL A L.length c) L.length (L.map fun(n:Int)=>zI n))(hA:∀ ad,A=some ad->ad.block<w.heap.size):
  Calls prog 4 #[zL A L.length c] w (MdPost w):=by
 obtain⟨W1,hW1⟩:∃ W,W=(w.alloc (zC #[zL none 0 0,zL none 0 0,zL none 0 0,zI 0,zL none 0 0,zL none 0 0,zL none 0 0] 31)).alloc (zC #[zL A L.length c,zI 0] 44):=⟨_,rfl⟩;have hb1:zB w W1:=by rw[hW1];exact (zR).alloc (by simp) _
 have hz1:Blk W1 w.heap.size 31 [zL none 0 0,zL none 0 0,zL none 0 0,zI 0,zL none 0 0,zL none 0 0,zL none 0 0]:=by rw[hW1];exact (z0l w _ _).alloc _
 have ht1:Blk W1 (w.heap.size+1) 44 [zL A L.length c,zI 0]:=by
  rw[hW1];have:=z0l (w.alloc (zC #[zL none 0 0,zL none 0 0,zL none 0 0,zI 0,zL none 0 0,zL none 0 0,zL none 0 0] 31)) [zL A L.length c,zI 0] 44;simp only[Zl] at this
  exact this
 have hs1:W1.heap.size=w.heap.size+2:=by rw[hW1];simp
 have hT1:z4d W1 (w.heap.size+2) (w.heap.size+1) 0:=⟨L,A,c,0,ht1,Zd _,hL.kw hb1,fun ad e=>by have:=hA ad e;omega,by omega⟩
 have HW:=hd_ hW1;have HE0:=hd_ he;have HE1:=hd_ (he.kw hb1);have HMK:=hd_ (zrr (w.heap.size+2) (w.heap.size+1) 0 W1 (he.kw hb1) hT1 (by omega) (by omega))
 have HT1:=hd_ hT1;have HZ1:=hd_ hz1;have HB1:=hd_ hb1;have HS1:=hd_ hs1;clear he hL hA hW1 hb1 hz1 ht1 hs1 hT1;go_enter func4,ntmps4;go_upto_region 2 with fail;rw[<- HW.out];go_wp2_with fail;refine HMK.mono ?_;rintro e w2 ⟨Ar,Aq,cr,cq,cv,D,l,rfl,hR2,hfr,hDp,hch,hT2,hK2,-,-⟩;dsimp only;have HMP:=hd_ (zq9 (w.heap.size+2) (w.heap.size+1) (0+400) w2 hT2 (by omega))
 have HR2:=hd_ hR2;have HD2:=hd_ (Zi hDp hch);have HK2:=hd_ hK2;have HT2:=hd_ hT2;clear hR2 hfr hDp hch hT2 hK2 HMK;have hfl:∀ X,(Instr.field 47 (.agg #[zL Ar D.length cr,zL Aq 0 cq,cv]) 0).run prog X=.ok (.agg #[zL Ar D.length cr,zL Aq 0 cq]) X:=fun X=>by kernel_rfl
 go_wp2_with fail;refine HMP.mono ?_;rintro e w3 ⟨k,es,mv,rfl,hk8,hes,hE3,hT3,hK3⟩;dsimp only;clear hfl HMP;obtain⟨Am,cm,rfl,-⟩:=id hE3.1;go_upto_region 3 with fail;have hA3:zB w3 (w3.alloc (zC #[zL Ar D.length cr,zL Aq 0 cq,zL Am es.length cm,zI 0,zL none 0 0,zL none 0 0,zL none 0 0] 31)):=zR;have hsz:W1.heap.size<=w3.heap.size:=Zf HK2.size hK3.size;have hB:ScB W1 (w3.alloc (zC #[zL Ar D.length cr,zL Aq 0 cq,zL Am es.length cm,zI 0,zL none 0 0,zL none 0 0,zL none 0 0] 31)) (w.heap.size+2) (w.heap.size+1) w3.heap.size (0+400+1) D es 0 [] [] [] (zL Ar D.length cr) (zL Aq 0 cq) (zL Am es.length cm) (zL none 0 0) (zL none 0 0) (zL none 0 0):=by
  have h1:=HS1.out;refine⟨⟨(HR2.kn hK3 HT2.nosb).kw hA3,hE3.kw hA3,Row.nil_ _ _,Row.nil_ _ _,Row.nil_ _ _⟩,z0l w3 _ _,hT3.kw hA3,(HK2.trans hK3).ku hA3,rfl,by omega,by omega,by omega,hsz⟩
 generalize w3.alloc (zC #[zL Ar D.length cr,zL Aq 0 cq,zL Am es.length cm,zI 0,zL none 0 0,zL none 0 0,zL none 0 0] 31)=W4 at hA3 hB |-;generalize w3.heap.size=g5 at hB hsz |-;have HB4:=hd_ hB;have HX:=hd_ (Zi hk8 hes);clear hB hA3 hE3 hT3 hK3 hk8 hes HK2 HR2 HT2;have htop:=zrt HD2.out.2;have hd30:=HD2.out.1.len;have HTO:=hd_ (zit D (zL Ar D.length cr) (zL Aq 0 cq) W4 HB4.at_.revs (by omega))
 have x0:W4.cell? ⟨g5,0,none⟩=some (.slice Ar D.length cr):=HB4.box.cell 0;have x1:W4.cell? ⟨g5,1,none⟩=some (.slice Aq 0 cq):=HB4.box.cell 1;have hwa:IntKind.i64.wrap (zir D+3)=zir D+3:=by rw[IntKind.wrap_i64];omega
 go_wp2_with fail;refine HTO.mono ?_;rintro e w5 ⟨rfl,hb5⟩;dsimp only;have HB5:=hd_ (HB4.ku hb5);have HNX:=hd_ (z4e _ _ _ (zir D+3) w5 HB5.tape (by omega) (by omega))
 clear hb5 HTO HB4 x0 x1;go_wp2_with fail;refine HNX.mono ?_;rintro e w6 ⟨r,rfl,hr,hT6,hK6⟩;dsimp only;have HB6:=hd_ (HB5.next hK6 hT6);obtain⟨hr0,hr1⟩:0<=r/\r<zir D+3:=⟨hr.1,hr.2.1 (by omega)⟩
 clear hr hT6 hK6 HNX HB5 hwa;have hwb:IntKind.i64.wrap (r - 1)=r - 1:=by rw[IntKind.wrap_i64];omega
 have z2:W4=W4:=rfl;have f3:w6.frozen? ⟨g5,3,none⟩=false:=HB6.box.frozen 3;have c3:w6.cell? ⟨g5,3,none⟩=some (zI 0):=HB6.box.cell 3;go_upto_region 4 with fail;have HB7:=hd_ (HB6.put 3 (zI (r - 1)) rfl HB6.at_.havs HB6.at_.opn HB6.at_.drt);have hch:-1<=r - 1/\r - 1<=200:=by omega
 clear hwb z2 f3 c3 HB6 hr0 hr1;generalize r - 1=ch at hch HB7 |-;generalize w6.setCell ⟨g5,3,none⟩ (zI ch)=W7 at HB7 |-;have HEN:Hid (∀ X,z49 [w.heap.size+1] W1 X->Env X):=hd_ fun X hX=>HE1.keptT HT1 hX;have HHV:=hd_ (zrl _ _ _ 30 D (zL Ar D.length cr) (zL Aq 0 cq) W7 (HEN _ HB7.kept) HB7.tape (Zf HB7.Uw HB7.kept.size) (by omega) HB7.at_.revs HD2.1 (by omega) ⟨htop.1,by omega⟩)
 have x0:W7.cell? ⟨g5,0,none⟩=some (.slice Ar D.length cr):=HB7.box.cell 0;have x1:W7.cell? ⟨g5,1,none⟩=some (.slice Aq 0 cq):=HB7.box.cell 1;go_wp2_with fail;refine HHV.mono ?_;rintro e w8 ⟨hv,hs,rfl,hH8,hOk,hl6,hT8,hK8,-⟩;dsimp only;obtain⟨Ah,chh,rfl,-⟩:=id hH8;have HB8:=hd_ (HB7.next hK8 hT8);have HH8:=hd_ hH8;have HOK:=hd_ (Zi hOk hl6);clear hH8 hOk hl6 hT8 hK8 HHV HB7 x0 x1;have f4:w8.frozen? ⟨g5,4,none⟩=false:=HB8.box.frozen 4;have c4:w8.cell? ⟨g5,4,none⟩=some (.slice none 0 0):=HB8.box.cell 4;go_upto_region 5 with fail;have HB9:=hd_ (HB8.put 4 (zL Ah hs.length chh) rfl HH8 HB8.at_.opn HB8.at_.drt);clear f4 c4 HB8 HH8;generalize w8.setCell ⟨g5,4,none⟩ (zL Ah hs.length chh)=W9 at HB9 |-;have hns:∀(l:List zA) (X X':zW) (m':Nat),z4d X (w.heap.size+2) (w.heap.size+1) m'->l.length<=maxLen->z49 [w.heap.size+1] (X.alloc (.cells (l.map Value.string).toArray 9)) X'->z20 X' (zL (some ⟨X.heap.size,0,none⟩) l.length l.length) l:=fun l X X' m' h hl hK=>by
  have hb:zB X (X.alloc (.cells (l.map Value.string).toArray 9)):=zR;exact z20.kn (z0i X (l.map Value.string) _ 1 l.length (by simp) hl _ rfl) hK (h.kw hb).nosb
 have hU9:w.heap.size+2<=W9.heap.size:=Zf HB9.Uw HB9.kept.size;have hA9:zB W9 (W9.alloc (.cells (z8e.map Value.string).toArray 9)):=zR;have HF1:=hd_ (zix (w.heap.size+2) (w.heap.size+1) _ z8e (some ⟨W9.heap.size,0,none⟩) 6 _ (HB9.tape.kw hA9) (Zf hU9 hA9.size) (by omega) (fun X hX=>hns z8e W9 X _ HB9.tape (by decide) hX) (by decide) (by decide))
 have HNS:=hd_ hns;have HB9a:=hd_ (HB9.ku hA9);have HP:=hd_ (ziu W9);clear hns hA9;go_wp2_with fail;refine HP.mono ?_;rintro e w10 ⟨rfl,hw10⟩;dsimp only;rw[hw10];clear hw10 HP;generalize W9.alloc (.cells (z8e.map Value.string).toArray 9)=W10 at HF1 HB9a |-;go_wp2_with fail;refine HF1.mono ?_;rintro e w11 ⟨op,ov,rfl,hO11,hol,ho6,hT11,hK11,-⟩;dsimp only;obtain⟨Ao,co,rfl,-⟩:=id hO11;have HB11:=hd_ (HB9a.next hK11 hT11);have hU11:w.heap.size+2<=w11.heap.size:=Zf HB11.Uw HB11.kept.size;have hA11:zB w11 (w11.alloc (.cells (zim.map Value.string).toArray 9)):=zR;have HF2:=hd_ (zix (w.heap.size+2) (w.heap.size+1) _ zim (some ⟨w11.heap.size,0,none⟩) 8 _ (HB11.tape.kw hA11) (Zf hU11 hA11.size) (by omega) (fun X hX=>HNS zim w11 X _ HB11.tape (by decide) hX) (by decide) (by decide))
 have HB12:=hd_ (HB11.ku hA11);have HO12:=hd_ (z20.kw hO11 hA11);have HP:=hd_ (ziv w11);have HOL:=hd_ (Zi hol ho6);clear hA11 hO11 hol ho6 hT11 hK11 HF1 HB9a HNS HB9 HB11;go_wp2_with fail;refine HP.mono ?_;rintro e w12 ⟨rfl,hw12⟩;dsimp only;rw[hw12];clear hw12 HP;generalize w11.alloc (.cells (zim.map Value.string).toArray 9)=W12 at HF2 HB12 HO12 |-;go_wp2_with fail;refine HF2.mono ?_;rintro e w13 ⟨dt,tv,rfl,hT13,htl,ht8,hTT13,hK13,-⟩;dsimp only;obtain⟨At,ct,rfl,-⟩:=id hT13;have HB13:=hd_ (HB12.next hK13 hTT13);have HO13:=hd_ (z20.kn HO12 hK13 HB12.tape.nosb);have HT13:=hd_ hT13;have HTL:=hd_ (Zi htl ht8);clear HB12 HO12 hT13 hTT13 hK13 htl ht8 HF2;have HB14:=hd_ (HB13.put 5 (zL Ao op.length co) rfl HB13.at_.havs HO13 HB13.at_.drt);have hns5:=HB13.out.nosb;have HT14:=hd_ (HT13.kn (z49.grown (S:=[g5]) (z4a w13 g5 5 (zL Ao op.length co)) (by simp)) hns5)
 have f5:w13.frozen? ⟨g5,5,none⟩=false:=HB13.box.frozen 5;have f6:w13.frozen? ⟨g5,6,none⟩=false:=HB13.box.frozen 6;have c5:w13.cell? ⟨g5,5,none⟩=some (.slice none 0 0):=HB13.box.cell 5;have c6:w13.cell? ⟨g5,6,none⟩=some (.slice none 0 0):=HB13.box.cell 6;have HB15:=hd_ (HB14.put 6 (zL At dt.length ct) rfl HB14.at_.havs HB14.at_.opn HT14);clear hns5 HB13 HO13 HT13 HB14 HT14;go_upto_region 6 with fail;clear f5 f6 c5 c6;generalize (w13.setCell ⟨g5,5,none⟩ (zL Ao op.length co)).setCell ⟨g5,6,none⟩ (zL At dt.length ct)=W15 at HB15 |-;have hZ:=HB15.out.kept.blk HZ1.out (by simp)
 have hBW:zB w W15:=HB1.trans (HB15.kept.to_below (fun s hs=>by simp at hs;omega) (by have:=HS1.out;omega))
 have HF:Hid (MdPost w (.returned (.tuple #[.agg #[zL Ar D.length cr,zL Aq 0 cq,zL Am es.length cm,zI ch,zL Ah hs.length chh,zL Ao op.length co,zL At dt.length ct],.pointer (some ⟨w.heap.size+1,0,none⟩)])) (((((((W15.setCell ⟨w.heap.size,0,none⟩ (zL Ar D.length cr)).setCell ⟨w.heap.size,1,none⟩ (zL Aq 0 cq)).setCell ⟨w.heap.size,2,none⟩ (zL Am es.length cm)).setCell ⟨w.heap.size,3,none⟩ (zI ch)).setCell ⟨w.heap.size,4,none⟩ (zL Ah hs.length chh)).setCell ⟨w.heap.size,5,none⟩ (zL Ao op.length co)).setCell ⟨w.heap.size,6,none⟩ (zL At dt.length ct))):=hd_ (by
  have hK:z49 [w.heap.size] W15 (((((((W15.setCell ⟨w.heap.size,0,none⟩ (zL Ar D.length cr)).setCell ⟨w.heap.size,1,none⟩ (zL Aq 0 cq)).setCell ⟨w.heap.size,2,none⟩ (zL Am es.length cm)).setCell ⟨w.heap.size,3,none⟩ (zI ch)).setCell ⟨w.heap.size,4,none⟩ (zL Ah hs.length chh)).setCell ⟨w.heap.size,5,none⟩ (zL Ao op.length co)).setCell ⟨w.heap.size,6,none⟩ (zL At dt.length ct)):=((((((z49.grown (z4a _ _ 0 _) (by simp)).trans (z49.grown (z4a _ _ 1 _) (by simp))).trans (z49.grown (z4a _ _ 2 _) (by simp))).trans (z49.grown (z4a _ _ 3 _) (by simp))).trans (z49.grown (z4a _ _ 4 _) (by simp))).trans (z49.grown (z4a _ _ 5 _) (by simp))).trans (z49.grown (z4a _ _ 6 _) (by simp))
  have hb7:=((((((hZ.set_ 0 (zL Ar D.length cr)).set_ 1 (zL Aq 0 cq)).set_ 2 (zL Am es.length cm)).set_ 3 (zI ch)).set_ 4 (zL Ah hs.length chh)).set_ 5 (zL Ao op.length co)).set_ 6 (zL At dt.length ct);have hbl:Below w.heap.size W15 _:=hK.to_below (fun s hs=>by simp at hs;omega) hBW.size
  refine⟨_,_,_,_,_,_,w.heap.size+2,w.heap.size+1,D,k,es,ch,hs,op,dt,rfl,⟨HD2.1,HD2.2,HX.1,HX.2,hch,HOK.1,HOK.2.1,HOK.2.2,HOL.1,HTL.1,HOL.2,HTL.2⟩,HB15.at_.kn hK ?_,?_,?_,Nat.le_succ _,hBW.trans hbl,HE0.kw (hBW.trans hbl),_,_,rfl⟩
  ·intro x hx;rw[Zm] at hx;subst hx;exact zk6.blk hZ (by simp [SbV])
  ·exact (HB15.tape.mono (by omega)).over (by omega) hK.size (fun x hx hne=>hK.block x hx (by simpa using hne)) hZ hb7
  ·exact Zf (Zf HB15.Uw HB15.kept.size) hK.size)
 have b0:W15.cell? ⟨g5,0,none⟩=some (.slice Ar D.length cr):=HB15.box.cell 0;have b1:W15.cell? ⟨g5,1,none⟩=some (.slice Aq 0 cq):=HB15.box.cell 1;have b2:W15.cell? ⟨g5,2,none⟩=some (.slice Am es.length cm):=HB15.box.cell 2;have b3:W15.cell? ⟨g5,3,none⟩=some (zI ch):=HB15.box.cell 3;have b4:W15.cell? ⟨g5,4,none⟩=some (.slice Ah hs.length chh):=HB15.box.cell 4;have b5:W15.cell? ⟨g5,5,none⟩=some (.slice Ao op.length co):=HB15.box.cell 5;have b6:W15.cell? ⟨g5,6,none⟩=some (.slice At dt.length ct):=HB15.box.cell 6;have z0:W15.cell? ⟨w.heap.size,0,none⟩=some (.slice none 0 0):=hZ.cell 0;have z1:W15.cell? ⟨w.heap.size,1,none⟩=some (.slice none 0 0):=hZ.cell 1;have z2:W15.cell? ⟨w.heap.size,2,none⟩=some (.slice none 0 0):=hZ.cell 2;have z3:W15.cell? ⟨w.heap.size,3,none⟩=some (zI 0):=hZ.cell 3;have z4:W15.cell? ⟨w.heap.size,4,none⟩=some (.slice none 0 0):=hZ.cell 4;have z5:W15.cell? ⟨w.heap.size,5,none⟩=some (.slice none 0 0):=hZ.cell 5;have z6:W15.cell? ⟨w.heap.size,6,none⟩=some (.slice none 0 0):=hZ.cell 6;have f0:W15.frozen? ⟨w.heap.size,0,none⟩=false:=hZ.frozen 0;have f1:W15.frozen? ⟨w.heap.size,1,none⟩=false:=hZ.frozen 1;have f2:W15.frozen? ⟨w.heap.size,2,none⟩=false:=hZ.frozen 2;have f3:W15.frozen? ⟨w.heap.size,3,none⟩=false:=hZ.frozen 3;have f4:W15.frozen? ⟨w.heap.size,4,none⟩=false:=hZ.frozen 4;have f5:W15.frozen? ⟨w.heap.size,5,none⟩=false:=hZ.frozen 5;have f6:W15.frozen? ⟨w.heap.size,6,none⟩=false:=hZ.frozen 6;have HY:=hd_ (((((((hZ.set_ 0 (zL Ar D.length cr)).set_ 1 (zL Aq 0 cq)).set_ 2 (zL Am es.length cm)).set_ 3 (zI ch)).set_ 4 (zL Ah hs.length chh)).set_ 5 (zL Ao op.length co)).set_ 6 (zL At dt.length ct));clear hZ hBW HB15 HW HE0 HE1 HT1 HZ1 HB1 HS1 HD2 HX htop hd30 HEN HOK HOL HTL hU9 hU11 hsz hch;go_wp2_with fail;generalize ((((((W15.setCell ⟨w.heap.size,0,none⟩ (zL Ar D.length cr)).setCell ⟨w.heap.size,1,none⟩ (zL Aq 0 cq)).setCell ⟨w.heap.size,2,none⟩ (zL Am es.length cm)).setCell ⟨w.heap.size,3,none⟩ (zI ch)).setCell ⟨w.heap.size,4,none⟩ (zL Ah hs.length chh)).setCell ⟨w.heap.size,5,none⟩ (zL Ao op.length co)).setCell ⟨w.heap.size,6,none⟩ (zL At dt.length ct)=W16 at HF HY |-
 clear b0 b1 b2 b3 b4 b5 b6 z0 z1 z2 z3 z4 z5 z6 f0 f1 f2 f3 f4 f5 f6;have y0:W16.cell? ⟨w.heap.size,0,none⟩=some (.slice Ar D.length cr):=HY.cell 0;have y1:W16.cell? ⟨w.heap.size,1,none⟩=some (.slice Aq 0 cq):=HY.cell 1;have y2:W16.cell? ⟨w.heap.size,2,none⟩=some (.slice Am es.length cm):=HY.cell 2;have y3:W16.cell? ⟨w.heap.size,3,none⟩=some (zI ch):=HY.cell 3;have y4:W16.cell? ⟨w.heap.size,4,none⟩=some (.slice Ah hs.length chh):=HY.cell 4;have y5:W16.cell? ⟨w.heap.size,5,none⟩=some (.slice Ao op.length co):=HY.cell 5;have y6:W16.cell? ⟨w.heap.size,6,none⟩=some (.slice At dt.length ct):=HY.cell 6;refine bodyPost_ret (v:=.tuple #[.agg #[zL Ar D.length cr,zL Aq 0 cq,zL Am es.length cm,zI ch,zL Ah hs.length chh,zL Ao op.length co,zL At dt.length ct],.pointer (some ⟨w.heap.size+1,0,none⟩)]) (by simp [results,results4,go_sem,y0,y1,y2,y3,y4,y5,y6]) rfl HF
