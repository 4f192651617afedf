/- A part of the proof. -/
import Derived.Test.YtegeboijhifmcaaGreatDoorMgs32
import Derived.Test.YtegeboijhifmcaaGreatDoorMgs38
import Derived.Test.YtegeboijhifmcaaGreatDoorMgs39
import Derived.Test.YtegeboijhifmcaaGreatDoorMgs37
set_option linter.unusedVariables false
set_option linter.unusedSimpArgs false
set_option maxHeartbeats 16000000
set_option maxRecDepth 100000
namespace Go.Proofs.YtegeboijhifmcaaGreatDoor
open Go.Proofs.Tryz
open Go.RowKit
theorem Env.keptT {w w':World}{U g m:Nat}(he:Env w)(hT:zgf w U g m)(hK:z6t [g] w w'):Env w':=by
 obtain⟨x,hx⟩:=he;obtain⟨l,A,c,a,h1,-⟩:=hT;refine⟨x,(World.cell?_of_block (hK.block _ (z03 hx) ?_)).trans hx⟩;intro e;rw[List.mem_singleton] at e;have h2:=h1.cell 0;rw[← e,hx] at h2;cases h2
def HvPost (w:World)(U g m:Nat)(e:Ending)(w':World):Prop:=∃(v:Value) (l:List Hav),e=.returned v∧z4b w' v l∧zf0 l∧(l.length≤6∧∀ x∈l,x.path∈zff)∧zgf w' U g m∧z6t [g] w w'∧∀ x,v.ownBlock=some x→w.heap.size≤x
structure WlOk (WL:List Hav):Prop where
 ok:zf0 WL
 num:∀ x∈WL,1≤x.num∧x.num≤100000
 len:WL.length≤6
 six:∀ x∈WL,x.path∈zff
theorem wl_ok {D:List Rev}{n k:Nat}{es:List zd8}{j:Int}(hD:zmr D n)(hn:n≤1000)(hk:k<8)(he:es.map zd8.pl=zg3 k):WlOk (zfk D (zdt es) j):=by
 have hf:zfi (zdt es):=(zfr k).of_congr (zgb hk he).2;refine⟨zfn (zmt hD) hf,fun x hx=>?_,Nat.le_trans (List.length_filterMap_le _ _) (by decide),zfo⟩
 obtain⟨p,hp,e⟩:=List.mem_filterMap.1 hx;obtain⟨-,-,r,hr,-,e4,-⟩:=zfm e;have h1:=zmt hD r hr;have h2:=zmw hD r hr;omega
theorem zou (U g m n:Nat)(D:List Rev)(dv dr:Value)(w:World)(he:Env w)(hT:zgf w U g m)(hU:U≤w.heap.size)(hm:m≤100000)(hR:z45 w dv D)(hD:zmr D n)(hn:n≤1000)(htop:0≤zli D∧zli D≤100000):
  Calls prog 31 #[.pointer (some ⟨g,0,none⟩),.agg #[dv,dr]] w (HvPost w U g (m+26)):=by
 obtain⟨Ar,cr,rfl,-⟩:=id hR;have hg:=hT.ltU;have hBx:=z0l w [.slice Ar D.length cr,dr] 26;have hA:Below w.heap.size w (w.alloc (.cells #[.slice Ar D.length cr,dr] 26)):=(Below.refl _ _).alloc (Nat.le_refl _) _;have HGU:Hid (g<w.heap.size∧U≤w.heap.size):=hd_ ⟨by omega,hU⟩
 have HDL:Hid (D.length≤1000):=hd_ (by have:=hD.len;omega)
 have HD:=hd_ hD;have HN:=hd_ hn;go_enter func31,ntmps31;go_upto_region 1 with fail;generalize w.alloc (.cells #[.slice Ar D.length cr,dr] 26)=W1 at hBx hA ⊢;have HE1:=hd_ (he.below hA);have HT1:=hd_ (hT.below hA);have HR1:=hd_ (z45.below hR hA);have HA:=hd_ (z6t.below (S:=[g]) hA);have hns:=hT.nosb;have HC:Hid (∀ w',z6t [g] W1 w'→w'.cell? ⟨w.heap.size,0,none⟩=some (.slice Ar D.length cr)∧w'.cell? ⟨w.heap.size,1,none⟩=some dr):=hd_ fun w' hK=>by
  have:=hK.blk hBx (by simp;have:=HGU.out;omega)
  exact⟨this.cell 0,this.cell 1⟩
 have HMA:=hd_ (fun X (h:zgf X U g m)=>zng U g m X h (by omega))
 have HTO:=hd_ (fun X (h:z6t [g] W1 X)=>zlk D (.slice Ar D.length cr) dr X (z45.keptN HR1.out h HT1.out.nosb) (by have:=HDL.out;omega))
 have HNX:=hd_ (fun X (h:zgf X U g (m+1))=>zgg U g (m+1) (zli D+2) X h (by omega) (by omega))
 have HWA:=hd_ (fun k (es:List zd8) v (j:Int) X (hk:k<8) (hes:es.map zd8.pl=zg3 k) (hE:zdi X v es) (h:z6t [g] W1 X)=>zoo D n es j (.slice Ar D.length cr) dr v X (HE1.out.keptT HT1.out h) (z45.keptN HR1.out h HT1.out.nosb) hE HD.out HDL.out (zoi hk hes) (zgb hk hes).1 ((zfr k).of_congr (zgb hk hes).2));have q2:IntKind.i64.wrap (zli D+2)=zli D+2:=by rw[IntKind.wrap_i64];omega
 clear he hT hU hR hD hn hBx hA hns hg htop;go_cut [5] (fun v wx=>Hid (∃(WL:List Hav) (B:Nat),WlOk WL∧wx.ownsRow B 44 3 v WL.length (WL.flatMap Hav.cells)∧w.heap.size≤B∧B≤wx.heap.size∧zgf wx U g (m+2)∧z6t [g] w wx))
 case first =>
  go_region_held3 (fun w'=>z6t [g] W1 w'∧w'.cell? ⟨w.heap.size,0,none⟩=some (.slice Ar D.length cr)∧w'.cell? ⟨w.heap.size,1,none⟩=some dr)
   ((refine z3n ?_ (HC.out _);first | with_reducible assumption | with_reducible exact z6t.below (Below.refl _ _) | with_reducible exact z6t.below (Below.refl _ _).drew))
   (first
    | (go_at_call 25;(with_reducible refine (HMA.out _ (by first | with_reducible exact HT1.out | with_reducible exact HT1.out.below (Below.refl _ _).drew)).mono ?_);rintro e' w2 ⟨k,es,v,rfl,hk8,hes,hE2,hT2,hK2⟩;have hS2:z6t [g] W1 w2:=by first | with_reducible exact hK2 | exact (z6t.below (Below.refl _ _).drew).trans hK2)
    | (go_at_call 26;(with_reducible refine (HTO.out _ hS2).mono ?_);rintro e' w3 ⟨rfl,hb3⟩;have hS3:z6t [g] W1 w3:=hS2.under hb3;have hT3:=hT2.below hb3)
    | (go_at_call 24;(with_reducible refine (HNX.out _ hT3).mono ?_);rintro e' w4 ⟨j,rfl,hj,hT4,hK4⟩;have hS4:=hS3.trans hK4)
    | (go_at_call 60;(with_reducible refine (HWA.out k es v j w4 hk8 hes (hE2.keptN ((z6t.below hb3).trans hK4) hT2.nosb) hS4).mono ?_);rintro e' w5 ⟨v5,rfl,hown,hb5⟩;have hS5:z6t [g] W1 w5:=hS4.under hb5))
  all_goals
   go_wp2_with fail;go_meet
   exact hd_ ⟨zfk D (zdt es) j,w4.heap.size,wl_ok HD.out HN.out hk8 hes,hown,Nat.le_trans HA.out.size hS4.size,hb5.size,hT4.below hb5,HA.out.trans hS5⟩
 case rest =>
  obtain⟨WL,B,hW,hown,hB,hB2,hT,hK⟩:=hcut.out;obtain⟨A5,c5,rfl⟩:=z0o hown;have hl6:=hW.len;have HW:=hd_ hW;have HI0:Hid (HlSt w wc U g (m+2) B wc.heap.size WL 0 [] (.slice A5 WL.length c5) none 0):=hd_ ⟨hK,hT,⟨_,hown,fun j _=>rfl⟩,World.ownsRow_nil _ _ _ _,hB,fun x e=>(hown.lt x e).2,HGU.out.1,HGU.out.2,Nat.le_refl _⟩;have hI0sz:=hK.size;clear hcut hW hown hB hB2 hT hK HE1 HT1 HR1 HC HMA HTO HNX HWA q2;have HGU0:Hid (w.heap.size≤wc.heap.size):=hd_ hI0sz;generalize wc.heap.size=B2 at HI0 HGU0;go_wp2_with fail;go_loopw [7,8] (fun ov i wr=>∃(k:Nat) (out:List Hav) (A2:Option Addr) (c2:Nat),ov=.slice A2 out.length c2∧i=.int .i64 k∧k≤WL.length∧Hid (HvSt WL k out∧∃ m',m'≤m+2+4 * k∧HlSt w wr U g m' B B2 WL k out (.slice A5 WL.length c5) A2 c2)) (fun _ i _=>WL.length - (intOf i).toNat)
  case atStart=>exact⟨0,[],none,0,rfl,rfl,Nat.zero_le _,hd_ ⟨hv_0 WL,m+2,by omega,HI0.out⟩⟩
  case round =>
   obtain⟨k,out,A2,c2,rfl,rfl,hk,HI⟩:=hrel;clear HI0;by_cases hlt:k<WL.length
   ·obtain⟨hHS,m',hm',hHL⟩:=HI.out;obtain⟨gv,c,elv,hHR⟩:=hHL.into hlt;injection elv with e1 e2 e3
    subst e1 e3;have HXE:=hd_ (fun y (hy:zlg WL[k] y) (hn:∀ x∈out,x.loc≠y.loc)=>hv_put hHS HW.out.ok hlt hy hn);have HXL:Hid (z3q (WL[k]).loc=true∧1≤(WL[k]).num∧(WL[k]).num≤100000):=hd_ ⟨(zf1 (HW.out.ok.ok _ (List.getElem_mem hlt))).2.1,HW.out.num _ (List.getElem_mem hlt)⟩;have HHS:=hd_ (And.intro (hv_skip hHS) (Nat.le_trans hHS.len hk));have HLT:=hd_ hlt;have HR:=hd_ hHR;have HM:=hd_ hm';have hm2:m'≤100030:=by omega
    have HX:=hd_ (zgg U g m' 6 wr hHR.tape (by omega) (by omega))
    generalize WL[k]=x at HR HXE HXL;clear hHS hHL hHR hm' e2 HI;go_wp2_with fail;refine HX.out.mono ?_;rintro e w2 ⟨k1,rfl,hk1,hT2,hK2⟩;dsimp only;have HR2:=hd_ (HR.out.next hK2 hT2);clear hk1 hT2 hK2 HX HR;by_cases h1:k1=0
    ·have q1:(k1 == 0)=true:=by simpa using h1
     have HB:=hd_ HR2.out.back;clear h1;go_wp2_with fail;go_roundw
     case rel=>exact⟨k+1,out,A2,c2,rfl,by go_num,by have:=HLT.out;omega,hd_ ⟨HHS.out.1,m'+1,by have:=HM.out;omega,HB.out⟩⟩
     case measure=>have:=HLT.out;simp [intOf];omega
    ·have q1:(k1 == 0)=false:=by simpa using h1
     have HX:=hd_ (zgg U g (m'+1) 6 w2 HR2.out.tape (by omega) (by omega))
     clear h1;go_wp2_with fail;refine HX.out.mono ?_;rintro e w3 ⟨k2,rfl,hk2,hT3,hK3⟩;dsimp only;have HR3:=hd_ (HR2.out.next hK3 hT3);obtain⟨b,q2⟩:∃ b,(k2 == 0)=b:=⟨_,rfl⟩;clear hk2 hT3 hK3 HX HR2 q1;go_upto_if 35 with fail
     clear q2;go_cut [] (fun wx=>Hid (∃ y,zmx w wx U g (m'+1+1) B B2 WL k out gv c5 A2 c2 y∧y.path=x.path∧y.loc=x.loc∧1≤y.num∧y.num≤x.num+1))
     case first =>
      obtain⟨⟨y0,y1,y2⟩,f1,f2⟩:=HR3.out.cells;cases b with
      | true =>
       have q3:IntKind.i64.wrap (x.num+1)=x.num+1:=by rw[IntKind.wrap_i64];have:=HXL.out;omega
       have hzl:(k:Int)<(WL.length:Int):=by have:=HLT.out;omega
       have HS:=hd_ (HR3.out.set_ 1 (.int .i64 (x.num+1)) ⟨x.path,x.num+1,x.loc⟩ (by omega) rfl)
       go_wp2_with fail;go_meet
       exact hd_ ⟨⟨x.path,x.num+1,x.loc⟩,HS.out,rfl,rfl,by have:=HXL.out;show 1≤x.num+1;omega,Int.le_refl _⟩
      | false =>
       go_wp2_with fail;go_meet
       exact hd_ ⟨x,HR3.out,rfl,rfl,HXL.out.2.1,by omega⟩
     case rest =>
      obtain⟨y,hy,hy1,hy2,hy3⟩:=hcut.out;have HY:=hd_ hy;have HYF:=hd_ (And.intro hy1 (And.intro hy2 hy3));have HLO:=hd_ (zlm wc);clear hcut hy hy1 hy2 hy3 HR3;go_wp2_with fail;refine HLO.out.mono ?_;rintro e w4 ⟨rfl,hw4⟩;dsimp only;have hb4:Below wc.heap.size wc w4:=hw4 ▸ (Below.refl _ _).alloc (Nat.le_refl _) _;have HBL:Hid (Blk w4 wc.heap.size 9 (zle.map .string)):=hd_ (hw4 ▸ z0l wc _ _);have HGL:Hid (wc.heap.size∉[g]):=hd_ (by have:=HY.out.kept.size;have:=HY.out.gU;simp;omega)
      have HR4:=hd_ (HY.out.under hb4);have HX:=hd_ (zgg U g (m'+1+1) 8 w4 HR4.out.tape (by omega) (by omega))
      clear hw4 hb4 HLO HY;generalize wc.heap.size=gl at HBL HGL ⊢;go_wp2_with fail;refine HX.out.mono ?_;rintro e w5 ⟨k3,rfl,hk3,hT5,hK5⟩;dsimp only;obtain⟨j3,rfl⟩:∃ j:Nat,k3=j:=⟨k3.toNat,by have:=hk3.1;omega⟩
      have hj8:j3<8:=by have:=hk3.2.1 (by omega);omega
      have HR5:=hd_ (HR4.out.next hK5 hT5);have z0:w5.cell? ⟨gl,j3,none⟩=some (.string (zle[j3]'hj8)):=((hK5.blk HBL.out HGL.out).cell j3).trans (by rw[List.getElem?_map,List.getElem?_eq_getElem (show j3<zle.length from hj8)];rfl)
      have HQ:Hid (z3q (zle[j3]'hj8)=true):=hd_ (zlf _ (List.getElem_mem _));generalize zle[j3]'hj8=q at z0 HQ;have hz8:(j3:Int)<8:=by omega
      have HX6:=hd_ (zgg U g (m'+1+1+1) 6 w5 HR5.out.tape (by omega) (by omega))
      clear hk3 hT5 hK5 HX HR4 HBL HGL hj8;go_wp2_with fail;refine HX6.out.mono ?_;rintro e w3 ⟨k2,rfl,hk2,hT3,hK3⟩;dsimp only;have HR3:=hd_ (HR5.out.next hK3 hT3);obtain⟨b,q2⟩:∃ b,(k2 == 0)=b:=⟨_,rfl⟩;clear hk2 hT3 hK3 HX6 HR5 z0 hz8;go_upto_if 51 with fail
      clear q2;go_cut [] (fun wx=>Hid (∃ y,zmx w wx U g (m'+1+1+1+1) B B2 WL k out gv c5 A2 c2 y∧zlg x y))
      case first =>
       obtain⟨⟨y0,y1,y2⟩,f1,f2⟩:=HR3.out.cells;cases b with
       | true =>
        have hzl:(k:Int)<(WL.length:Int):=by have:=HLT.out;omega
        have HS:=hd_ (HR3.out.set_ 2 (.string q) ⟨y.path,y.num,q⟩ (by omega) rfl)
        go_wp2_with fail;go_meet
        exact hd_ ⟨⟨y.path,y.num,q⟩,HS.out,HYF.out.1,HQ.out,HYF.out.2.2⟩
       | false =>
        go_wp2_with fail;go_meet
        exact hd_ ⟨y,HR3.out,HYF.out.1,by rw[HYF.out.2.1];exact HXL.out.1,HYF.out.2.2⟩
      case rest =>
       obtain⟨y',hy,hy1⟩:=hcut.out;have HY:=hd_ hy;have HTO:=hd_ hy1;clear hcut hy hy1 HR3 HYF HQ;have HAT:Hid (Calls prog 61 #[.slice A2 out.length c2,.string y'.loc] wc fun e w'=>∃ zz:Hav,e=.returned (.tuple #[.agg #[.string zz.path,.int .i64 zz.num,.string zz.loc],.bool (z5y Hav.loc out y'.loc).isSome])∧Below wc.heap.size wc w'):=hd_ ((zor out _ y'.loc wc (Row.of_own HY.out.out) (by have:=HHS.out.2;omega)).mono fun e w' h=>⟨_,h⟩)
       obtain⟨⟨y0,y1,y2⟩,-,-⟩:=HY.out.cells;have hzl:(k:Int)<(WL.length:Int):=by have:=HLT.out;omega
       cases ho:z5y Hav.loc out y'.loc with
       | none =>
        rw[ho] at HAT;have HNL:=hd_ (z62.1 ho);clear ho;go_wp2_with fail;refine HAT.out.mono ?_;rintro e w8 ⟨zz,rfl,hb⟩;dsimp only;have HR9:=hd_ ((HY.out.under hb).under ((Below.refl w8.heap.size w8).alloc (Nat.le_refl _) (.cells #[.string zz.path,.int .i64 zz.num,.string zz.loc] 44)));clear hb y0 y1 y2 HAT HY;go_upto_region 13 with fail;generalize w8.alloc (.cells #[.string zz.path,.int .i64 zz.num,.string zz.loc] 44)=W9 at HR9 ⊢;generalize w8.heap.size=g9;obtain⟨⟨y0,y1,y2⟩,-,-⟩:=HR9.out.cells;have HRA:=hd_ (HR9.out.under ((Below.refl W9.heap.size W9).alloc (Nat.le_refl _) (.cells #[.string y'.path,.int .i64 y'.num,.string y'.loc] 44)));have hrow:=z0i W9 [.string y'.path,.int .i64 y'.num,.string y'.loc] 44 3 1 rfl (by unfold maxLen;omega) W9.heap.size rfl
        have hol:out.length≤6:=by have:=HHS.out.2;omega
        go_wp2_with (at_builtin;refine z0j rfl rfl z54 HRA.out.out rfl hrow rfl (by simp [Value.oneCell']) (by omega) (by unfold maxLen;omega) HRA.out.b2 ?_;intro A' c' w6 hown hgr hob)
        have HN:=hd_ (HRA.out.push hown hgr);have HV:=hd_ (HXE.out y' HTO.out HNL.out);clear hown hgr hob hrow y0 y1 y2;go_wp2_with fail;go_roundw
        case rel=>exact⟨k+1,out++[y'],A',c',by simp,by go_num,by have:=HLT.out;omega,hd_ ⟨HV.out,m'+1+1+1+1,by have:=HM.out;omega,HN.out⟩⟩
        case measure=>have:=HLT.out;simp [intOf];omega
       | some hz =>
        rw[ho] at HAT;clear ho;go_wp2_with fail;refine HAT.out.mono ?_;rintro e w8 ⟨zz,rfl,hb⟩;dsimp only;have HR9:=hd_ ((HY.out.under hb).under ((Below.refl w8.heap.size w8).alloc (Nat.le_refl _) (.cells #[.string zz.path,.int .i64 zz.num,.string zz.loc] 44))).back;clear hb y0 y1 y2 HAT HY;go_wp2_with fail;go_roundw
        case rel=>exact⟨k+1,out,A2,c2,rfl,by go_num,by have:=HLT.out;omega,hd_ ⟨HHS.out.1,m'+1+1+1+1,by have:=HM.out;omega,HR9.out⟩⟩
        case measure=>have:=HLT.out;simp [intOf];omega
   ·have hke:k=WL.length:=by omega
    obtain⟨hHS,m',hm',hHL⟩:=HI.out;have HF:Hid (HvPost w U g (m+26) (.returned (.slice A2 out.length c2)) wr):=hd_ ⟨_,out,rfl,Row.of_own hHL.out,hv_end hHS,⟨by have:=hHS.len;omega,fun x hx=>by obtain⟨j,hj,-,e⟩:=hHS.of x hx;rw[e];exact HW.out.six _ (List.getElem_mem hj)⟩,hHL.tape.mono (by omega),hHL.kept,fun x e=>Nat.le_trans HGU0.out (hHL.out.lt x e).1⟩
    clear hHS hHL HI;subst hke;go_wp2_with fail;go_ret;exact HF.out
open Go.Sort (grow)
theorem zpi {w wr:World}{U g gw m:Nat}{D:List Rev}{dv dr cv:Value}{l:List Cnk}(h:WsB w wr U g gw m D dv dr cv l)(hl:l.length≤50000)(hm:m≤79000)(hD:D.length≤1000)(num:Int):
  Calls prog 59 #[.pointer (some ⟨gw,0,none⟩),.pointer (some ⟨g,0,none⟩),.int .i64 num] wr (ChPost w wr U g gw (m+70) D dv dr cv l.length num):=by
 obtain⟨Ar,cr,rfl,-⟩:=id h.revs;obtain⟨W2,hW2⟩:∃ W,W=(wr.alloc (.cells #[.int .i64 0,.string ⟨#[]⟩,.string ⟨#[]⟩,.slice none 0 0,.slice none 0 0] 95)).alloc (.cells #[.int .i64 num,.string ⟨#[]⟩,.string ⟨#[]⟩,.slice none 0 0,.slice none 0 0] 95):=⟨_,rfl⟩;have hb2:Below wr.heap.size wr W2:=by rw[hW2];exact ((Below.refl _ _).alloc (Nat.le_refl _) _).alloc (by simp) _
 have hs2:W2.heap.size=wr.heap.size+1+1:=by rw[hW2];simp
 have h6:Blk W2 wr.heap.size 95 [.int .i64 0,.string ⟨#[]⟩,.string ⟨#[]⟩,.slice none 0 0,.slice none 0 0]:=by rw[hW2];exact (z0l wr _ _).alloc _
 have h7:Blk W2 (wr.heap.size+1) 95 [.int .i64 num,.string ⟨#[]⟩,.string ⟨#[]⟩,.slice none 0 0,.slice none 0 0]:=by
  rw[hW2];have:=z0l (wr.alloc (.cells #[.int .i64 0,.string ⟨#[]⟩,.string ⟨#[]⟩,.slice none 0 0,.slice none 0 0] 95)) [.int .i64 num,.string ⟨#[]⟩,.string ⟨#[]⟩,.slice none 0 0,.slice none 0 0] 95;simp only[World.size_alloc] at this
  exact this
 have hb3:Below W2.heap.size W2 (W2.alloc (.cells (zff.map Value.string).toArray 9)):=(Below.refl _ _).alloc (Nat.le_refl _) _;have HST:Hid (zpf w wr (W2.alloc (.cells (zff.map Value.string).toArray 9)) U g gw m D (.slice Ar D.length cr) dr cv cv l wr.heap.size (wr.heap.size+1) (wr.heap.size+1+1) (wr.heap.size+1+1+1) num [] (.slice none 0 0)):=hd_ (by
  have hbx:=z0r hb2 hb3;refine⟨h.under hbx,Frm.of_kept (z6t.below hbx),h6.below hb3 h6.lt,h7.below hb3 h7.lt,?_,World.ownsRow_nil _ _ _ _,⟨Nat.le_refl _,by omega,by omega,by omega,by simp [hs2]⟩,h.kept.size,h.box.lt,fun x hx=>(h.far x hx).2.1⟩
  have:=z0l W2 (zff.map Value.string) 9;rw[hs2] at this;exact this)
 have HW:=hd_ hW2;have HPA:=hd_ (zll W2);have HL:Hid (∀(p:ByteArray) X,z45 X (.slice Ar D.length cr) D→Calls prog 89 #[.agg #[.slice Ar D.length cr,dr],.string p] X fun e w'=>e=.returned (.tuple #[.bool (zi0 D p),.int .i64 (zec (zgs D p)).num])∧Below X.heap.size X w'):=hd_ fun p X hX=>zi2 D p _ dr X hX (by omega)
 have HLA:Hid (∀(p:ByteArray) X,z45 X (.slice Ar D.length cr) D→Calls prog 90 #[.agg #[.slice Ar D.length cr,dr],.string p] X (zh0 X (zgs D p))):=hd_ fun p X hX=>zh1 D p _ dr X hX (by omega)
 clear h hW2 hb2 h6 h7 hb3;rw[hs2] at HPA;go_enter func59,ntmps59;go_upto_region 2 with fail;rw[← HW.out];go_wp2_with fail;refine HPA.out.mono ?_;rintro e w3 ⟨rfl,rfl⟩;dsimp only;clear HPA HW hs2;go_upto_region 3 with fail;generalize W2.alloc (.cells (zff.map Value.string).toArray 9)=W3 at HST ⊢;have hB:Hid (True):=hd_ trivial;generalize wr.heap.size+1+1+1=B at HST;generalize wr.heap.size+1+1=gp at HST ⊢;generalize wr.heap.size+1=g7 at HST ⊢;generalize hg6:wr.heap.size=g6 at HST ⊢;have HX:=hd_ (zgg U g m 3 W3 HST.out.ws.tape (by omega) (by omega))
 go_wp2_with fail;refine HX.out.mono ?_;rintro e w4 ⟨k,rfl,hk,hT,hK⟩;dsimp only;have HS4:=hd_ (HST.out.next hK hT);obtain⟨b,q0⟩:∃ b,(k == 0)=b:=⟨_,rfl⟩;clear hk hT hK HX HST hB;go_upto_if 28 with fail
 clear q0;go_cut [9,10] (fun f t wx=>∃ a c:Int,f=.int .i64 a∧t=.int .i64 c∧Hid ((a=-1∧c=-1∨(0≤a∧a<6)∧0≤c∧c<6)∧∃ m',m'≤m+3∧zpf w wr wx U g gw m' D (.slice Ar D.length cr) dr cv cv l g6 g7 gp B num [] (.slice none 0 0)))
 case first =>
  cases b with
  | false =>
   go_wp2_with fail;go_meet
   exact⟨-1,-1,rfl,rfl,hd_ ⟨.inl ⟨rfl,rfl⟩,m+1,by omega,HS4.out⟩⟩
  | true =>
   have HX:=hd_ (zgg U g (m+1) 6 w4 HS4.out.ws.tape (by omega) (by omega))
   go_wp2_with fail;refine HX.out.mono ?_;rintro e w5 ⟨a,rfl,ha,hT,hK⟩;dsimp only;obtain⟨ja,rfl⟩:∃ j:Nat,a=j:=⟨a.toNat,by have:=ha.1;omega⟩
   have ja6:ja<6:=by have:=ha.2.1 (by omega);omega
   have HS5:=hd_ (HS4.out.next hK hT);have HX2:=hd_ (zgg U g (m+1+1) 6 w5 HS5.out.ws.tape (by omega) (by omega))
   clear ha hT hK HX HS4;go_wp2_with fail;refine HX2.out.mono ?_;rintro e w6 ⟨c,rfl,hc,hT,hK⟩;dsimp only;obtain⟨jc,rfl⟩:∃ j:Nat,c=j:=⟨c.toNat,by have:=hc.1;omega⟩
   have jc6:jc<6:=by have:=hc.2.1 (by omega);omega
   have HS6:=hd_ (HS5.out.next hK hT);clear hc hT hK HX2 HS5;have fs:w6.cell? ⟨gp,ja,none⟩=some (.string (zff[ja]'(show ja<zff.length from ja6))):=(HS6.out.bp.cell ja).trans (by rw[List.getElem?_map,List.getElem?_eq_getElem (show ja<zff.length from ja6)];rfl)
   have fc:=HL.out (zff[ja]'(show ja<zff.length from ja6));generalize zff[ja]'(show ja<zff.length from ja6)=p at fs fc;generalize zi0 D p=fb at fc;generalize (zec (zgs D p)).num=fn at fc;have cL:∀ d os,Calls prog 89 #[.agg #[.slice Ar D.length cr,dr],.string p] (grow (redrawn w6 d) os) fun e w''=>e=.returned (.tuple #[.bool fb,.int .i64 fn])∧∃ p:Regrown,w''=grow (redrawn w6 p.d) p.os:=fun d os=>Calls.regrown_of (fc _ (HS6.out.ws.revs.below (below_regrown w6 d os)));have x0:=cell_regrown (show w6.cell? ⟨gw,0,none⟩=some (.slice Ar D.length cr) from HS6.out.ws.box.cell 0);have x1:=cell_regrown (show w6.cell? ⟨gw,1,none⟩=some dr from HS6.out.ws.box.cell 1);have x2:=cell_regrown fs;have qz:(ja:Int)<6:=by omega
   clear fs fc;go_upto_region 6 with fail;refine wp_region_quiet_below (by kernel_rfl) (by kernel_rfl) ?_
   repeat (first | go_big_quiet_step (exact cL _ _) | quiet_step (exact cL _ _))
   refine wpQuiet_nil ?_;intro _ hw9;obtain⟨⟨dq,osq⟩,hw9⟩:=hw9;subst hw9;have HS7:=hd_ (HS6.out.under (below_regrown w6 dq osq));clear cL x0 x1 x2 qz;generalize grow (redrawn w6 dq) osq=w7 at HS7 ⊢;have ts:w7.cell? ⟨gp,jc,none⟩=some (.string (zff[jc]'(show jc<zff.length from jc6))):=(HS7.out.bp.cell jc).trans (by rw[List.getElem?_map,List.getElem?_eq_getElem (show jc<zff.length from jc6)];rfl)
   have tc:=HL.out (zff[jc]'(show jc<zff.length from jc6));generalize zff[jc]'(show jc<zff.length from jc6)=p at ts tc;generalize zi0 D p=tb at tc;generalize (zec (zgs D p)).num=tn at tc;have cL:∀ d os,Calls prog 89 #[.agg #[.slice Ar D.length cr,dr],.string p] (grow (redrawn w7 d) os) fun e w''=>e=.returned (.tuple #[.bool tb,.int .i64 tn])∧∃ p:Regrown,w''=grow (redrawn w7 p.d) p.os:=fun d os=>Calls.regrown_of (tc _ (HS7.out.ws.revs.below (below_regrown w7 d os)));have x0:=cell_regrown (show w7.cell? ⟨gw,0,none⟩=some (.slice Ar D.length cr) from HS7.out.ws.box.cell 0);have x1:=cell_regrown (show w7.cell? ⟨gw,1,none⟩=some dr from HS7.out.ws.box.cell 1);have x2:=cell_regrown ts;have qz:(jc:Int)<6:=by omega
   clear ts tc;go_upto_region 7 with fail;refine wp_region_quiet_below (by kernel_rfl) (by kernel_rfl) ?_
   repeat (first | go_big_quiet_step (exact cL _ _) | quiet_step (exact cL _ _))
   refine wpQuiet_nil ?_;intro _ hw9;obtain⟨⟨dq,osq⟩,hw9⟩:=hw9;subst hw9;have HS8:=hd_ (HS7.out.under (below_regrown w7 dq osq));clear cL x0 x1 x2 qz;generalize grow (redrawn w7 dq) osq=w8 at HS8 ⊢;cases fb <;> cases tb
   all_goals
    go_wp2_with fail;go_meet
    first
     | exact⟨-1,-1,rfl,rfl,hd_ ⟨.inl ⟨rfl,rfl⟩,m+1+1+1,by omega,HS8.out⟩⟩
     | exact⟨ja,jc,rfl,rfl,hd_ ⟨.inr ⟨⟨by omega,by omega⟩,by omega,by omega⟩,m+1+1+1,by omega,HS8.out⟩⟩
 case rest =>
  obtain⟨a,c,rfl,rfl,HX⟩:=hcut;obtain⟨hac,m',hm',hS⟩:=HX.out;have HT:=hd_ (fun(T:Code) hT=>chT10 T hT (m:=m+3) (by omega) hD rfl hl hac ⟨hS.ws.mono hm',hS.frm,hS.b6,hS.b7,hS.bp,hS.own,hS.ord,hS.lo⟩)
  clear HX hac hm' hS HS4 HL HLA;rename ∀ a w,Code.wp _ (Code.seq (Code.seq (Code.region 10 _ _) _) _) _ a w→_=>hk7
  have HK7:=hd_ hk7;clear hk7;go_wp2_with fail;exact HK7.out _ _ (HT.out _ (by kernel_rfl) _ _ _ _ _ _ _ _ _ _ _ _ _ _ _ _ _ _ _ _ _ _ _ _ _ _ _ _ _ _ _ _ _ _ _ _ _ _ _ _ _ _ _ _ _ _ _ _ _ _ _ _ _ _ _ _ _ _ _ _ _ _ _ _ _ _ _ _ _ _ _ _ _ _ _ _ _ _ _ _ _ _ _ _ _ _ _ _ _ _ _ _ _ _ _ _ _ _ _ _ _ _ _ _ _ _ _ _ _ _ _ _ _ _ _ _ _ _ _ _ _ _ _ _ _ _ _ _ _ _ _ _ _ _ _ _ _ _ _ _ _ _ _ _ _ _ _ _ _ _ _ _ _ _ _ _ _ _ _ _ _ _ _ _ _ _ _ _ _ _ _ _ _ _ _ _ _ _ _ _ _ _)
section
variable {u0 u1 u2 u3 u4 u5 u6 u7 u8 u9 gn gt gu gx gy gz gA gC gD gE gF gG gH gI gJ gK gL gM gN gO gP gQ gR gT gV gW gX : Value}
def WaOk (B:Nat)(w':World)(D:List Rev)(num:Int)(es:List Edt)(A A2:Option Addr)(n c c2:Nat)(e0:Int):Prop:=
 e0≠0∨e0=0∧n=D.length+es.length∧z45 w' (.slice A n c) (D++es.map (zhy num))∧(∀ x,(Value.slice A n c).ownBlock=some x→B≤x∧x<w'.heap.size)∧z48 w' (.slice A2 0 c2) []
theorem wa_form {w:World}{D:List Rev}{es:List Edt}{num:Int}{e:Ending}{w':World}(h:zig w D es num e w'):∃(A A2:Option Addr) (n c c2:Nat) (e0:Int),e=.returned (.tuple #[.agg #[.slice A n c,.slice A2 0 c2],.int .i64 e0])∧Below w.heap.size w w'∧WaOk w.heap.size w' D num es A A2 n c c2 e0∧(e0≠0→A=none):=by
 obtain⟨hb,⟨n,hn,rfl⟩ | ⟨A,A2,c,c2,rfl,h1,h2,h3⟩⟩:=h
 ·exact⟨none,none,0,0,0,n,rfl,hb,.inl hn,fun _=>rfl⟩
 ·exact⟨A,A2,_,c,c2,0,rfl,hb,.inr ⟨rfl,rfl,h1,h2,h3⟩,fun h=>absurd rfl h⟩
structure MkP (w V w':World)(U g gw m:Nat)(D:List Rev)(dv dr cv:Value)(n0:Nat)(num:Int)(A A2:Option Addr)(n c c2:Nat)(e0:Int)(g8:Nat)(cv':Value)(l':List Cnk)(es:List Edt):Prop where
 ws:WsB w w' U g gw m D dv dr cv' l'
 len:l'.length≤n0+6
 frm:Frm V w' g gw cv cv'
 box:Blk w' g8 26 [.slice A n c,.slice A2 0 c2]
 lt:V.heap.size≤g8
 edk:EdK D 6 es
 ok:WaOk V.heap.size w' D num es A A2 n c c2 e0
 far:∀ x,(Value.slice A n c).ownBlock=some x→cv'.ownBlock≠some x∧x≠g8
theorem zpj {w w':World}{v:Value}(h:z48 w v []):z48 w' v []:=by
 obtain⟨A,c,e,hc,hm,hl,h0,-⟩:=h;exact⟨A,c,e,hc,hm,hl,h0,fun h=>absurd h (by decide)⟩
theorem wa_far {B:Nat}{w':World}{D:List Rev}{num:Int}{es:List Edt}{A A2:Option Addr}{n c c2:Nat}{e0:Int}(h:WaOk B w' D num es A A2 n c c2 e0)(he:e0=0){x:Nat}(hx:(Value.slice A n c).ownBlock=some x):B≤x:=by
 rcases h with h | h
 ·exact absurd he h
 ·exact (h.2.2.2.1 x hx).1
theorem mk_fin {w V Y w8:World}{U g gw m:Nat}{D:List Rev}{dv dr cv:Value}{n0:Nat}{num:Int}{A A2:Option Addr}{n c c2:Nat}{e0:Int}{g8:Nat}{cv':Value}{l':List Cnk}{es:List Edt}
  (hS:WsB w w8 U g gw m D dv dr cv' l') (hl:l'.length≤n0+6) (hF:Frm V w8 g gw cv cv') (hb:Blk w8 g8 26 [.slice none 0 0,.slice none 0 0]) (h1:V.heap.size≤g8) (hw:w.heap.size≤V.heap.size) (hgw:gw<V.heap.size) (h2:cv'.ownBlock≠some g8) (h3:∀ x,dv.ownBlock=some x→x<V.heap.size)
  (h4:g8<Y.heap.size) (hcv:∀ x,cv'.ownBlock=some x→x<Y.heap.size) (hk:EdK D 6 es) (hW:WaOk Y.heap.size w8 D num es A A2 n c c2 e0) (hnil:e0≠0→A=none):
  MkP w V ((w8.setCell ⟨g8,0,none⟩ (.slice A n c)).setCell ⟨g8,1,none⟩ (.slice A2 0 c2)) U g gw m D dv dr cv n0 num A A2 n c c2 e0 g8 cv' l' es:=by
 have d3:dv.ownBlock≠some g8:=fun e=>by have:=h3 _ e;omega
 have hne:g8≠gw:=by omega
 have hg8:w.heap.size≤g8:=by omega
 have hfr:∀ x,(Value.slice A n c).ownBlock=some x→Y.heap.size≤x:=fun x hx=>by
  by_cases he:e0=0
  ·exact wa_far hW he hx
  ·have hx2:=hx;rw[hnil he] at hx2;cases hx2
 refine⟨(hS.set_at hg8 hne h2 d3).set_at hg8 hne h2 d3,hl,?_,(hb.set_ 0 _).set_ 1 _,h1,hk,?_,fun x hx=>⟨fun e=>by have:=hcv x e;have:=hfr x hx;omega,by have:=hfr x hx;omega⟩⟩
 ·exact (hF.grownAt (z6u _ g8 0 _) (fun k e=>by injection e with e;omega)).grownAt (z6u _ g8 1 _) (fun k e=>by injection e with e;omega)
 ·rcases hW with h | ⟨h5,h6,h7,h8,h9⟩
  ·exact .inl h
  ·have n8:(Value.slice A n c).ownBlock≠some g8:=fun e=>by have:=hfr _ e;omega
   exact .inr ⟨h5,h6,Row.set_far (Row.set_far h7 n8) n8,(fun x hx=>⟨by have:=(h8 x hx).1;omega,by simp;exact (h8 x hx).2⟩),zpj h9⟩
theorem mk_finN {w V Y w8:World}{U g gw m:Nat}{D:List Rev}{dv dr cv:Value}{n0:Nat}{num:Int}{A A2:Option Addr}{n c c2:Nat}{e0:Int}{cv':Value}{l':List Cnk}{es:List Edt}
  (hS:WsB w w8 U g gw m D dv dr cv' l') (hl:l'.length≤n0+6) (hF:Frm V w8 g gw cv cv') (hY:V.heap.size≤Y.heap.size) (hcv:∀ x,cv'.ownBlock=some x→x<Y.heap.size) (hk:EdK D 6 es) (hW:WaOk Y.heap.size w8 D num es A A2 n c c2 e0) (hnil:e0≠0→A=none):
  MkP w V (w8.alloc (.cells #[.slice A n c,.slice A2 0 c2] 26)) U g gw m D dv dr cv n0 num A A2 n c c2 e0 w8.heap.size cv' l' es:=by
 have hA:Below w8.heap.size w8 (w8.alloc (.cells #[.slice A n c,.slice A2 0 c2] 26)):=(Below.refl _ _).alloc (Nat.le_refl _) _;have hfr:∀ x,(Value.slice A n c).ownBlock=some x→Y.heap.size≤x:=fun x hx=>by
  by_cases he:e0=0
  ·exact wa_far hW he hx
  ·have hx2:=hx;rw[hnil he] at hx2;cases hx2
 refine⟨hS.under hA,hl,hF.grownAt (row:=none) ⟨hA.os,hA.tape,hA.output,hA.size,fun k hk _=>hA.block k hk⟩ (fun k e=>by cases e),z0l w8 _ _,hF.size,hk,?_,fun x hx=>⟨fun e=>by have:=hcv x e;have:=hfr x hx;omega,fun e=>?_⟩⟩
 ·rcases hW with h | ⟨h5,h6,h7,h8,h9⟩
  ·exact .inl h
  ·exact .inr ⟨h5,h6,z45.below h7 hA,(fun x hx=>⟨Nat.le_trans hY (h8 x hx).1,Nat.lt_of_lt_of_le (h8 x hx).2 hA.size⟩),zpj h9⟩
 ·rcases hW with h | ⟨h5,h6,h7,h8,h9⟩
  ·rw[hnil h] at hx;cases hx
  ·have:=(h8 x hx).2;omega
structure MkQ (w V w5:World)(U g gw m:Nat)(D:List Rev)(dv dr cv:Value)(n0:Nat)(num:Int)(cv':Value)(l':List Cnk)(es:List Edt):Prop where
 ws:WsB w w5 U g gw m D dv dr cv' l'
 len:l'.length≤n0+6
 frm:Frm V w5 g gw cv cv'
 edk:EdK D 6 es
theorem MkQ.under {w V w5 X:World}{U g gw m:Nat}{D:List Rev}{dv dr cv:Value}{n0:Nat}{num:Int}{cv':Value}{l':List Cnk}{es:List Edt}(h:MkQ w V w5 U g gw m D dv dr cv n0 num cv' l' es)(hA:Below w5.heap.size w5 X):MkQ w V X U g gw m D dv dr cv n0 num cv' l' es:=
 ⟨h.ws.under hA,h.len,h.frm.grownAt (row:=none) ⟨hA.os,hA.tape,hA.output,hA.size,fun k hk _=>hA.block k hk⟩ (fun k e=>by cases e),h.edk⟩
theorem mkR7 (ops:Array Oper)(hops:Tryz.f30.body.bind (zci 7)=some ops)(Q:Exit→Act→World→Prop){w V:World}{U g gw m:Nat}{D:List Rev}{Ar Aq:Option Addr}{cr cq:Nat}{cv:Value}{l:List Cnk}(num:Int)
  (hS:WsB w V U g gw m D (.slice Ar D.length cr) (.slice Aq 0 cq) cv l) (hl:l.length≤40000) (hm:m≤70000) (hD:D.length≤900) {dn:Nat} (hDp:zmr D dn) (hdn:dn≤900) (he:∀ X,z6t [g] w X→Env X) (hQr:z48 w (.slice Aq 0 cq) [])
  (hQ:∀(eA eB eC eD eE eF eG eH eI:Value) (A A2:Option Addr) (n c c2:Nat) (e0:Int) (g8:Nat) (cv':Value) (l':List Cnk) (es:List Edt) (w':World),Hid (MkP w V w' U g gw (m+70) D (.slice Ar D.length cr) (.slice Aq 0 cq) cv l.length num A A2 n c c2 e0 g8 cv' l' es)→Q .normal ⟨#[.pointer (some ⟨g,0,none⟩),u1,u2,u3,u4,.pointer (some ⟨gw,0,none⟩),.int .i64 num,u7,.pointer (some ⟨g8,0,none⟩),.int .i64 e0,gn,gt,gu,gx,gy,gz,gA,gC,gD,gE,gF,gG,gH,eA,eB,eC,eD,eE,eF,eG,eH,eI,gR,gT,gV,gW,gX],[]⟩ w'):
  (Code.region 7 ops true).wp prog Q ⟨#[.pointer (some ⟨g,0,none⟩),u1,u2,u3,u4,.pointer (some ⟨gw,0,none⟩),.int .i64 num,u7,u8,u9,gn,gt,gu,gx,gy,gz,gA,gC,gD,gE,gF,gG,gH,gI,gJ,gK,gL,gM,gN,gO,gP,gQ,gR,gT,gV,gW,gX],[]⟩ V:=by
 simp only[Tryz.f30,Option.bind_some,zci] at hops
 simp at hops
 subst hops;have HQ:=hd_ hQ;have HCH:Hid (∀ X,Below V.heap.size V X→Calls prog 59 #[.pointer (some ⟨gw,0,none⟩),.pointer (some ⟨g,0,none⟩),.int .i64 num] X fun e w5=>∃(Ae:Option Addr) (ce:Nat) (es:List Edt) (cv':Value) (l':List Cnk),e=.returned (.agg #[.int .i64 num,.string ⟨#[]⟩,.string ⟨#[]⟩,.slice Ae es.length ce,.slice none 0 0])∧z47 w5 (.slice Ae es.length ce) es∧(∀ k cs,Blk X k 26 cs→V.heap.size≤k→Blk w5 k 26 cs∧cv'.ownBlock≠some k)∧MkQ w V w5 U g gw (m+70) D (.slice Ar D.length cr) (.slice Aq 0 cq) cv l.length num cv' l' es∧V.heap.size≤w5.heap.size∧X.heap.size≤w5.heap.size):=hd_ (fun X hX=>(zpi (hS.under hX) (by omega) (by omega) (by omega) num).mono fun e w5 h=>by
  obtain⟨ev,es,cv',l',rfl,hE,hK,hS5,hl5,hF5⟩:=h;obtain⟨Ae,ce,rfl,-⟩:=id hE;have hF:=(Frm.of_kept (gw:=gw) (cv:=cv) (z6t.below (S:=[g]) hX)).trans hF5;have hcl:∀ x,cv.ownBlock=some x→x<V.heap.size:=fun x hx=>(hS.cnk.lt x hx).2;have h1:=hS.box.lt;have h2:=hS.gU;have h3:=hS.UU;have h4:=hS.le;refine⟨Ae,ce,es,cv',l',rfl,hE,fun k cs hB hk=>⟨hF5.blk hB (by omega) (by omega) (fun e=>by have:=hcl k e;omega),fun e=>?_⟩,⟨hS5,hl5,hF,hK⟩,Nat.le_trans hX.size hF5.size,hF5.size⟩
  rcases hF5.ob with e2 | e2
  ·rw[e2] at e;have:=hcl k e;omega
  ·have:=e2 k e;have:=hB.lt;omega)
 have HAP:Hid (∀(Ae:Option Addr) (ce:Nat) (es:List Edt) (cv':Value) (l':List Cnk) (Y:World),MkQ w V Y U g gw (m+70) D (.slice Ar D.length cr) (.slice Aq 0 cq) cv l.length num cv' l' es→z47 Y (.slice Ae es.length ce) es→Calls prog 58 #[.agg #[.slice Ar D.length cr,.slice Aq 0 cq],.agg #[.int .i64 num,.string ⟨#[]⟩,.string ⟨#[]⟩,.slice Ae es.length ce,.slice none 0 0]] Y fun e w8=>∃(A A2:Option Addr) (n c c2:Nat) (e0:Int),e=.returned (.tuple #[.agg #[.slice A n c,.slice A2 0 c2],.int .i64 e0])∧Below Y.heap.size Y w8∧(∀ k cs,Blk Y k 26 cs→Blk w8 k 26 cs)∧MkQ w V w8 U g gw (m+70) D (.slice Ar D.length cr) (.slice Aq 0 cq) cv l.length num cv' l' es∧WaOk Y.heap.size w8 D num es A A2 n c c2 e0∧(e0≠0→A=none)∧(∀ x,cv'.ownBlock=some x→x<Y.heap.size)):=hd_ (fun Ae ce es cv' l' Y hQ hE=>by
  refine (zih D es num Ar Aq Ae cr cq ce Y (he Y hQ.ws.kept) hQ.ws.revs (by omega) hE hQ.edk.len (fun x hx=>?_) (zpj hQr)).mono fun e w8 h=>?_
  ·obtain⟨j,hj,-,hp⟩:=hQ.edk.six x hx;have hb:=hQ.edk.base x hx;rw[zms hDp] at hb;have hlog:(zgp D x.path).length≤D.length:=by unfold zgp;exact List.length_filter_le _ _
   have h6:∀ p∈zff,p.size≤2000000:=by decide
   exact⟨h6 _ (hp ▸ List.getElem_mem hj),by omega,by omega⟩
  ·obtain⟨A,A2,n,c,c2,e0,rfl,hb,hW,hn⟩:=wa_form h;exact⟨A,A2,n,c,c2,e0,rfl,hb,fun k cs hB=>hB.below hb hB.lt,hQ.under hb,hW,hn,fun x hx=>(hQ.ws.cnk.lt x hx).2⟩)
 have HCL:Hid (∀ {W:World} {cv':Value} {l':List Cnk} {es:List Edt},MkQ w V W U g gw (m+70) D (.slice Ar D.length cr) (.slice Aq 0 cq) cv l.length num cv' l' es→W.cell? ⟨gw,0,none⟩=some (.slice Ar D.length cr)∧W.cell? ⟨gw,1,none⟩=some (.slice Aq 0 cq)):=hd_ fun h=>⟨h.ws.box.cell 0,h.ws.box.cell 1⟩;have HO:Hid (w.heap.size≤V.heap.size∧gw<V.heap.size∧∀ x,(Value.slice Ar D.length cr).ownBlock=some x→x<V.heap.size):=hd_ ⟨hS.kept.size,hS.box.lt,fun x hx=>(hS.far x hx).2.1⟩;have hVA:Below V.heap.size V (V.alloc (.cells #[.slice none 0 0,.slice none 0 0] 26)).drew:=((Below.refl _ _).alloc (Nat.le_refl _) _).drew;have x0:V.cell? ⟨gw,0,none⟩=some (.slice Ar D.length cr):=hS.box.cell 0;have x1:V.cell? ⟨gw,1,none⟩=some (.slice Aq 0 cq):=hS.box.cell 1;have hS1:=hS.under hVA;have y0:(V.alloc (.cells #[.slice none 0 0,.slice none 0 0] 26)).drew.cell? ⟨gw,0,none⟩=some (.slice Ar D.length cr):=hS1.box.cell 0;have y1:(V.alloc (.cells #[.slice none 0 0,.slice none 0 0] 26)).drew.cell? ⟨gw,1,none⟩=some (.slice Aq 0 cq):=hS1.box.cell 1;clear hVA hS1 hS hQ hDp he hQr hl hm hD hdn;refine wp_region_noPanic ?_;go_region_law (first
  | (go_simp;go_at_call 59;refine (HCH.out _ (by repeat (first | exact Below.refl _ _ | refine Below.drew ?_ | refine zcf ?_ _))).mono ?_;rintro e w5 ⟨Ae,ce,es,cv',l',rfl,hE5,hB5,hQ5,hZ5,hZX⟩;obtain⟨p0,p1⟩:=HCL.out hQ5;(try have hblk5:=hB5 _ _ (Blk.drew' (z0l V [.slice none 0 0,.slice none 0 0] 26)) (Nat.le_refl _));(try have hblk5:=hB5 _ _ (z0l V [.slice none 0 0,.slice none 0 0] 26) (Nat.le_refl _));have hA5:Below w5.heap.size w5 (w5.alloc (.cells #[.slice none 0 0,.slice none 0 0] 26)):=(Below.refl _ _).alloc (Nat.le_refl _) _;obtain⟨q0,q1⟩:=HCL.out (hQ5.under hA5))
  | (go_simp;go_at_call 58;refine (HAP.out Ae ce es cv' l' _ (by first | exact hQ5 | exact hQ5.under hA5) (by first | exact hE5 | exact z47.below hE5 hA5)).mono ?_;rintro e w8 ⟨A,A2,n,c,c2,e0,rfl,hb8,hB8,hQ8,hW8,hn8,hcv8⟩;(first | (have hblk8:=hB8 _ _ hblk5.1;obtain⟨r0,r1,f0,f1⟩:=box2 hblk8) | (have hblk8:=hB8 _ _ (z0l w5 [.slice none 0 0,.slice none 0 0] 26);obtain⟨r0,r1,f0,f1⟩:=box2 hblk8) | skip))
  | fail)
 all_goals refine NoPanic.normal ?_
 all_goals first
  | exact HQ.out _ _ _ _ _ _ _ _ _ A A2 n c c2 e0 _ cv' l' es _ (mk_finN hQ8.ws hQ8.len hQ8.frm hZ5 hcv8 hQ8.edk hW8 hn8)
  | exact HQ.out _ _ _ _ _ _ _ _ _ A A2 n c c2 e0 _ cv' l' es _ (mk_fin hQ8.ws hQ8.len hQ8.frm hblk8 (Nat.le_refl _) HO.out.1 HO.out.2.1 hblk5.2 HO.out.2.2 (by have:=hZX;simp at this;omega) hcv8 hQ8.edk hW8 hn8)
  | exact HQ.out _ _ _ _ _ _ _ _ _ A A2 n c c2 e0 _ cv' l' es _ (mk_fin hQ8.ws hQ8.len hQ8.frm hblk8 hZ5 HO.out.1 HO.out.2.1 (fun e=>by have:=(hQ5.ws.cnk.lt _ e).2;omega) HO.out.2.2 (by simp) hcv8 hQ8.edk hW8 hn8)
end
theorem WsB.depot {w wr:World}{U g gw m:Nat}{D D':List Rev}{dv dr cv dv' dr':Value}{l:List Cnk}(h:WsB w wr U g gw m D dv dr cv l)(hR:z45 wr dv' D')(hf:∀ x,dv'.ownBlock=some x→x≠gw∧x<wr.heap.size∧cv.ownBlock≠some x):
  WsB w ((wr.setCell ⟨gw,0,none⟩ dv').setCell ⟨gw,1,none⟩ dr') U g gw m D' dv' dr' cv l:=by
 have hle:=h.le;have hb:Below w.heap.size wr ((wr.setCell ⟨gw,0,none⟩ dv').setCell ⟨gw,1,none⟩ dr'):=((Below.refl _ _).setCell (p:=⟨gw,0,none⟩) hle dv').setCell (p:=⟨gw,1,none⟩) hle dr';have hc:cv.ownBlock≠some gw:=fun e=>by have:=(h.cnk.lt _ e).1;omega
 have hd:dv'.ownBlock≠some gw:=fun e=>(hf gw e).1 rfl;exact⟨h.kept.onto hb,h.tape.onto h.UU hb,(h.box.set_ 0 dv').set_ 1 dr',z4r (z4r h.cnk (p:=⟨gw,0,none⟩) hc dv') (p:=⟨gw,1,none⟩) hc dr',Row.set_far (Row.set_far hR hd) hd,h.gU,h.UU,h.le,fun x hx=>⟨(hf x hx).1,by simp;exact (hf x hx).2.1,(hf x hx).2.2⟩⟩
def MkPost (w:World)(U g m:Nat)(e:Ending)(w':World):Prop:=∃(Ar Aq:Option Addr) (cr cq:Nat) (cv:Value) (D:List Rev) (l:List Cnk),
 e=.returned (.agg #[.slice Ar D.length cr,.slice Aq 0 cq,cv])∧z45 w' (.slice Ar D.length cr) D∧(∀ x,(Value.slice Ar D.length cr).ownBlock=some x→w.heap.size≤x)∧zmr D 30∧(∀ r∈D,0≤r.chg∧r.chg≤100)∧zgf w' U g m∧z6t [g] w w'∧w'.ownsRow w.heap.size 207 3 cv l.length (l.flatMap Cnk.cells)∧l.length≤30
structure MkI (w wr:World)(U g gr gw m j:Nat)(num:Int):Prop where
 it:∃(Ar Aq:Option Addr) (cr cq:Nat) (cv:Value) (D:List Rev) (l:List Cnk),WsB w wr U g gw (m+71 * j) D (.slice Ar D.length cr) (.slice Aq 0 cq) cv l∧z48 w (.slice Aq 0 cq) []∧(∀ x,(Value.slice Ar D.length cr).ownBlock=some x→gw<x)∧zmr D (6 * j)∧(∀ r∈D,0≤r.chg∧r.chg≤num)∧l.length≤6 * j
 num0:0≤num
 numj:num≤3 * j
 res:Blk wr gr 75 [.slice none 0 0,.slice none 0 0,.slice none 0 0]
theorem zmr.mono {D:List Rev}{n n':Nat}(h:zmr D n)(hn:n≤n'):zmr D n':=⟨Nat.le_trans h.len hn,h.six,h.num⟩
theorem mk_next {w w3 w7:World}{U g gr gw m j:Nat}{num num':Int}{D:List Rev}{Ar Aq A A2:Option Addr}{cr cq n c c2:Nat}{cv cv':Value}{n0:Nat}{e0:Int}{g8:Nat}{l':List Cnk}{es:List Edt}
  (hP:MkP w w3 w7 U g gw (m+71 * (j+1)) D (.slice Ar D.length cr) (.slice Aq 0 cq) cv n0 num' A A2 n c c2 e0 g8 cv' l' es) (hn0:n0≤6 * j) (hQ:z48 w (.slice Aq 0 cq) []) (hfr:∀ x,(Value.slice Ar D.length cr).ownBlock=some x→gw<x) (hD:zmr D (6 * j)) (hch:∀ r∈D,0≤r.chg∧r.chg≤num)
  (h0:0≤num) (h1:num≤num') (h2:num'≤3 * ((j:Int)+1)) (hr:Blk w7 gr 75 [.slice none 0 0,.slice none 0 0,.slice none 0 0]) (hgr:gr≠gw) (hgw:gw<w3.heap.size):
  (e0≠0→MkI w w7 U g gr gw m (j+1) num')∧(e0=0→MkI w ((w7.setCell ⟨gw,0,none⟩ (.slice A n c)).setCell ⟨gw,1,none⟩ (.slice A2 0 c2)) U g gr gw m (j+1) num'):=by
 have hl:=hP.len;refine⟨fun he=>⟨⟨Ar,Aq,cr,cq,cv',D,l',hP.ws,hQ,hfr,hD.mono (by omega),fun r hr=>⟨(hch r hr).1,Int.le_trans (hch r hr).2 h1⟩,by omega⟩,by omega,by omega,hr⟩,fun he=>?_⟩
 rcases hP.ok with h | ⟨-,hn,hR,hb,hQ2⟩
 ·exact absurd he h
 ·have hfar:∀ x,(Value.slice A n c).ownBlock=some x→x≠gw∧x<w7.heap.size∧cv'.ownBlock≠some x:=fun x hx=>⟨by have:=(hb x hx).1;omega,(hb x hx).2,(hP.far x hx).1⟩
  have hS:=hP.ws.depot (dr':=.slice A2 0 c2) hR hfar;have hDp:zmr (D++es.map (zhy num')) (6 * j+es.length):=dp_app hD num' (fun x hx=>by obtain⟨i,hi,-,e⟩:=hP.edk.six x hx;rw[← e];exact List.getElem_mem hi) hP.edk.nd hP.edk.base
  have hel:=hP.edk.len;have hlen:(D++es.map (zhy num')).length=n:=by rw[List.length_append,List.length_map,hn]
  refine⟨⟨A,A2,c,c2,cv',D++es.map (zhy num'),l',by rw[hlen];exact hS,zpj hQ2,fun x hx=>?_,hDp.mono (by omega),fun r hr=>?_,by omega⟩,by omega,by omega,(hr.far (p:=⟨gw,0,none⟩) (by exact hgr.symm) _).far (p:=⟨gw,1,none⟩) (by exact hgr.symm) _⟩
  ·rw[hlen] at hx;have:=(hb x hx).1;omega
  ·rcases List.mem_append.1 hr with hr | hr
   ·exact⟨(hch r hr).1,Int.le_trans (hch r hr).2 h1⟩
   ·obtain⟨x,-,rfl⟩:=List.mem_map.1 hr;exact⟨by show 0≤num';omega,Int.le_refl _⟩
theorem zpk (U g m:Nat)(w:World)(he:Env w)(hT:zgf w U g m)(hU:U≤w.heap.size)(hm:m≤50000):
  Calls prog 30 #[.pointer (some ⟨g,0,none⟩),.int .i64 5] w (MkPost w U g (m+400)):=by
 have hg:=hT.ltU;obtain⟨W1,hW1⟩:∃ W,W=(w.alloc (.cells #[.slice none 0 0,.slice none 0 0,.slice none 0 0] 75)).alloc (.cells #[.slice none 0 0,.slice none 0 0,.slice none 0 0] 75):=⟨_,rfl⟩;have hb1:Below w.heap.size w W1:=by rw[hW1];exact ((Below.refl _ _).alloc (Nat.le_refl _) _).alloc (by simp) _
 have hr1:Blk W1 w.heap.size 75 [.slice none 0 0,.slice none 0 0,.slice none 0 0]:=by rw[hW1];exact (z0l w _ _).alloc _
 have hx1:Blk W1 (w.heap.size+1) 75 [.slice none 0 0,.slice none 0 0,.slice none 0 0]:=by
  rw[hW1];have:=z0l (w.alloc (.cells #[.slice none 0 0,.slice none 0 0,.slice none 0 0] 75)) [.slice none 0 0,.slice none 0 0,.slice none 0 0] 75;simp only[World.size_alloc] at this
  exact this
 have hT1:=hT.below hb1;have HW:=hd_ hW1;have HN1:=hd_ (zgg U g m 6 W1 hT1 (by omega) (by omega))
 have HN2:=hd_ (fun m' X (h:zgf X U g m') (hm':m'≤60000)=>zgg U g m' 2 X h (by omega) (by omega))
 have HENV:Hid (∀ X,z6t [g] w X→Env X):=hd_ fun X hX=>he.keptT hT hX;have HGU:Hid (g<U∧U≤w.heap.size):=hd_ ⟨hg,hU⟩;have H0:Hid (∀ X,z6t [g] W1 X→zgf X U g (m+1)→MkI w X U g w.heap.size (w.heap.size+1) (m+1) 0 0):=hd_ fun X hX hTX=>by
  refine⟨⟨none,none,0,0,.slice none 0 0,[],[],⟨(z6t.below hb1).trans hX,hTX.mono (by omega),hX.blk hx1 (by simp;omega),World.ownsRow_nil _ _ _ _,z45.nil_ _,hg,hU,by omega,(fun x hx=>by cases hx)⟩,z48.nil_ _,(fun x hx=>by cases hx),dp_nil,(fun r hr=>by cases hr),by simp⟩,Int.le_refl _,by omega,hX.blk hr1 (by simp;omega)⟩
 clear he hT hU hg hT1 hb1 hr1 hx1 hW1;go_enter func30,ntmps30;go_upto_region 3 with fail;rw[← HW.out];go_wp2_with fail;refine HN1.out.mono ?_;rintro e w2 ⟨K,rfl,hK,hT2,hK2⟩;dsimp only;have HI0:=hd_ (H0.out w2 hK2 hT2);obtain⟨k0,rfl,hk0⟩:∃ k0:Nat,K=k0∧k0<6:=⟨K.toNat,by have:=hK.1;omega,by have:=hK.1;have:=hK.2.1 (by omega);omega⟩
 clear hT2 hK2 H0 HN1 hK;go_upto_block 0 with fail
 generalize hgw:w.heap.size+1=gw at HI0;have HGW:=hd_ hgw;go_cut [] (fun wx=>∃(j:Nat) (num:Int),j≤5∧Hid (MkI w wx U g w.heap.size gw (m+1) j num))
 case first =>
  go_wp2_with fail;go_loopw [6,7] (fun s6 s7 wr=>∃(k j:Nat) (num:Int),s6=.int .i64 num∧s7=.int .i64 k∧k+j≤5∧Hid (MkI w wr U g w.heap.size gw (m+1) j num)) (fun _ s7 _=>(intOf s7).toNat)
  case atStart=>exact⟨k0,0,0,rfl,rfl,by omega,HI0⟩
  case round =>
   obtain⟨k,j,num,rfl,rfl,hkj,HI⟩:=hrel;by_cases hk:0<k
   ·obtain⟨Ar,Aq,cr,cq,cv,D,l,hS,hQr,hfr,hDp,hch,hln⟩:=HI.out.it;have hn0:=HI.out.num0;have hnj:=HI.out.numj;have HR:=hd_ HI.out.res;have HS:=hd_ hS;have HNX:=hd_ (HN2.out (m+1+71 * j) wr hS.tape (by omega))
    have HD:=hd_ (And.intro hQr (And.intro hfr (And.intro hDp (And.intro hch hln))));have q:decide ((0:Int)<(k:Int))=true:=by simp;omega
    clear hS hQr hfr hDp hch hln HI;go_wp2_with fail;refine HNX.out.mono ?_;rintro e w3 ⟨r,rfl,hr,hT3,hK3⟩;dsimp only;obtain⟨hr0,hr2⟩:0≤r∧r<2:=⟨hr.1,hr.2.1 (by omega)⟩
    have HS3:=hd_ (HS.out.next hK3 hT3);have HK3:=hd_ hK3;have hwa:IntKind.i64.wrap (1+r)=1+r:=by rw[IntKind.wrap_i64];omega
    have hwb:IntKind.i64.wrap (num+(1+r))=num+(1+r):=by rw[IntKind.wrap_i64];omega
    have HNM:Hid (num≤num+(1+r)∧num+(1+r)≤3 * ((j:Int)+1)):=hd_ ⟨by omega,by omega⟩
    clear hr hT3 hK3 HNX hr0 hr2;go_upto_region 7 with fail;clear hwa hwb;generalize num+(1+r)=num' at HNM ⊢;have hdl:D.length≤6 * j:=HD.out.2.2.1.len;refine mkR7 _ (by kernel_rfl) _ num' HS3.out (by have:=HD.out.2.2.2.2;omega) (by omega) (by omega) HD.out.2.2.1 (by omega) HENV.out HD.out.1 ?_
    intro eA eB eC eD eE eF eG eH eI A A2 n c c2 e0 g8 cv' l' es w7 HP;have HZ:Hid (gw<w3.heap.size∧w.heap.size<gw):=hd_ ⟨HS3.out.box.lt,by have:=HGW.out;omega⟩
    have HR7:Hid (Blk w7 w.heap.size 75 [.slice none 0 0,.slice none 0 0,.slice none 0 0]):=hd_ (by
     have hg1:=HGU.out;have hne:cv.ownBlock≠some w.heap.size:=fun e=>by have:=(HS3.out.cnk.lt _ e).1;have:=HZ.out.2;omega
     exact HP.out.frm.blk (HK3.out.blk HR.out (by simp;omega)) (by omega) (by have:=HZ.out.2;omega) hne)
    have HM:Hid ((e0≠0→MkI w w7 U g w.heap.size gw (m+1) (j+1) num')∧(e0=0→MkI w ((w7.setCell ⟨gw,0,none⟩ (.slice A n c)).setCell ⟨gw,1,none⟩ (.slice A2 0 c2)) U g w.heap.size gw (m+1) (j+1) num')):=hd_ (mk_next (num:=num) (by rw[show m+1+71 * (j+1)=m+1+71 * j+1+70 by omega];exact HP.out) HD.out.2.2.2.2 HD.out.1 HD.out.2.1 HD.out.2.2.1 HD.out.2.2.2.1 hn0 HNM.out.1 HNM.out.2 HR7.out (by have:=HZ.out.2;omega) HZ.out.1)
    obtain⟨b0,b1,-,-⟩:=box2 HP.out.box;have c0:w7.cell? ⟨gw,0,none⟩=some (.slice Ar D.length cr):=HP.out.ws.box.cell 0;have c1:w7.cell? ⟨gw,1,none⟩=some (.slice Aq 0 cq):=HP.out.ws.box.cell 1;have f0:w7.frozen? ⟨gw,0,none⟩=false:=HP.out.ws.box.frozen 0;have f1:w7.frozen? ⟨gw,1,none⟩=false:=HP.out.ws.box.frozen 1;clear HP HR7 HR HS HS3 HK3;obtain⟨kk,rfl⟩:∃ kk,k=kk+1:=⟨k - 1,by omega⟩
    have hwk:IntKind.i64.wrap (((kk+1:Nat):Int) - 1)=(kk:Int):=by rw[IntKind.wrap_i64];omega
    by_cases he:e0=0
    ·have q0:(e0 == 0)=true:=by simpa using he
     have HX:=hd_ (HM.out.2 he);clear he HM;go_wp2_with fail;go_roundw
     case rel=>exact⟨kk,j+1,num',rfl,by go_num,by omega,HX⟩
     case measure=>simp [intOf]
    ·have q0:(e0 == 0)=false:=by simpa using he
     have HX:=hd_ (HM.out.1 he);clear he HM;go_wp2_with fail;go_roundw
     case rel=>exact⟨kk,j+1,num',rfl,by go_num,by omega,HX⟩
     case measure=>simp [intOf]
   ·have hk0:k=0:=by omega
    subst hk0;have q:decide ((0:Int)<((0:Nat):Int))=false:=by simp
    go_wp2_with fail;go_meet
    exact⟨j,num,by omega,HI⟩
 case rest=>
  obtain⟨j,num,hj,HI⟩:=hcut;obtain⟨Ar,Aq,cr,cq,cv,D,l,hS,hQr,hfr,hDp,hch,hln⟩:=HI.out.it;obtain⟨A3,c3,rfl⟩:=z0o hS.cnk;have hnj:=HI.out.numj;have c0:wc.cell? ⟨gw,0,none⟩=some (.slice Ar D.length cr):=hS.box.cell 0;have c1:wc.cell? ⟨gw,1,none⟩=some (.slice Aq 0 cq):=hS.box.cell 1;have c2:wc.cell? ⟨gw,2,none⟩=some (.slice A3 l.length c3):=hS.box.cell 2;have r0:wc.cell? ⟨w.heap.size,0,none⟩=some (.slice none 0 0):=HI.out.res.cell 0;have r1:wc.cell? ⟨w.heap.size,1,none⟩=some (.slice none 0 0):=HI.out.res.cell 1;have r2:wc.cell? ⟨w.heap.size,2,none⟩=some (.slice none 0 0):=HI.out.res.cell 2;have f0:wc.frozen? ⟨w.heap.size,0,none⟩=false:=HI.out.res.frozen 0;have f1:wc.frozen? ⟨w.heap.size,1,none⟩=false:=HI.out.res.frozen 1;have f2:wc.frozen? ⟨w.heap.size,2,none⟩=false:=HI.out.res.frozen 2;have HR:=hd_ HI.out.res;have hw:=HGW.out;have hne:w.heap.size≠gw:=by omega
  have d1:(Value.slice Ar D.length cr).ownBlock≠some w.heap.size:=fun e=>by have:=hfr _ e;omega
  have d2:(Value.slice A3 l.length c3).ownBlock≠some w.heap.size:=fun e=>by have:=(hS.cnk.lt _ e).1;omega
  have hS3:=((hS.set_at (u:=.slice Ar D.length cr) (i:=0) (Nat.le_refl _) hne d2 d1).set_at (u:=.slice Aq 0 cq) (i:=1) (Nat.le_refl _) hne d2 d1).set_at (u:=.slice A3 l.length c3) (i:=2) (Nat.le_refl _) hne d2 d1;have hR3:=((HR.out.set_ 0 (.slice Ar D.length cr)).set_ 1 (.slice Aq 0 cq)).set_ 2 (.slice A3 l.length c3);have HF:Hid (MkPost w U g (m+400) (.returned (.agg #[.slice Ar D.length cr,.slice Aq 0 cq,.slice A3 l.length c3])) (((wc.setCell ⟨w.heap.size,0,none⟩ (.slice Ar D.length cr)).setCell ⟨w.heap.size,1,none⟩ (.slice Aq 0 cq)).setCell ⟨w.heap.size,2,none⟩ (.slice A3 l.length c3))):=hd_ ⟨Ar,Aq,cr,cq,_,D,l,rfl,hS3.revs,fun x hx=>by have:=hfr x hx;omega,hDp.mono (by omega),fun r hr=>⟨(hch r hr).1,by have:=(hch r hr).2;omega⟩,hS3.tape.mono (by omega),hS3.kept,z4p hS3.cnk (by omega),by omega⟩
  have HR3:=hd_ hR3;clear hS hQr hfr hDp hch hln HI hnj hS3 hR3 d1 d2 hne hw HR;go_wp2_with fail;generalize ((wc.setCell ⟨w.heap.size,0,none⟩ (.slice Ar D.length cr)).setCell ⟨w.heap.size,1,none⟩ (.slice Aq 0 cq)).setCell ⟨w.heap.size,2,none⟩ (.slice A3 l.length c3)=W9 at HF HR3 ⊢;have y0:W9.cell? ⟨w.heap.size,0,none⟩=some (.slice Ar D.length cr):=HR3.out.cell 0;have y1:W9.cell? ⟨w.heap.size,1,none⟩=some (.slice Aq 0 cq):=HR3.out.cell 1;have y2:W9.cell? ⟨w.heap.size,2,none⟩=some (.slice A3 l.length c3):=HR3.out.cell 2;refine bodyPost_ret (v:=.agg #[.slice Ar D.length cr,.slice Aq 0 cq,.slice A3 l.length c3]) (by simp [results,results30,go_sem,y0,y1,y2]) rfl HF.out
structure ScOk (D:List Rev)(k:Nat)(es:List zd8)(ch:Int)(hs:List Hav)(op dt:List ByteArray):Prop where
 dp:zmr D 30
 chg:∀ r∈D,0≤r.chg∧r.chg≤100
 k8:k<8
 es:es.map zd8.pl=zg3 k
 ch:-1≤ch∧ch≤200
 hv:zf0 hs
 hl:hs.length≤6
 h6:∀ x∈hs,x.path∈zff
 opl:op.length≤2
 dtl:dt.length≤2
 op6:∀ x∈op,x∈zff
 dt8:∀ x∈dt,x∈zle
structure zpl (X:World)(D:List Rev)(es:List zd8)(hs:List Hav)(op dt:List ByteArray)(dv mv hv ov tv:Value):Prop where
 revs:z45 X dv D
 ents:zdi X mv es
 havs:z4b X hv hs
 opn:Strs X ov op
 drt:Strs X tv dt
theorem zpl.keptN {S:List Nat}{X X':World}{D:List Rev}{es:List zd8}{hs:List Hav}{op dt:List ByteArray}{dv mv hv ov tv:Value}(h:zpl X D es hs op dt dv mv hv ov tv)(hK:z6t S X X')(hS:∀ g∈S,zos X g):zpl X' D es hs op dt dv mv hv ov tv:=
 ⟨h.revs.keptN hK hS,h.ents.keptN hK hS,h.havs.keptN hK hS,h.opn.keptN hK hS,h.drt.keptN hK hS⟩
theorem zpl.below {X X':World}{D:List Rev}{es:List zd8}{hs:List Hav}{op dt:List ByteArray}{dv mv hv ov tv:Value}(h:zpl X D es hs op dt dv mv hv ov tv)(hb:Below X.heap.size X X'):zpl X' D es hs op dt dv mv hv ov tv:=
 ⟨h.revs.below hb,h.ents.below hb,h.havs.below hb,h.opn.below hb,h.drt.below hb⟩
theorem Row.sb {w:World}{s n:Nat}{v:Value}{xs:List Value}(h:Row w s v n xs):SbV v=false:=by
 obtain⟨A,c,rfl,-⟩:=h;rfl
structure ScB (w X:World)(U g g5 m:Nat)(D:List Rev)(es:List zd8)(ch:Int)(hs:List Hav)(op dt:List ByteArray)(dv dr mv hv ov tv:Value):Prop where
 at_:zpl X D es hs op dt dv mv hv ov tv
 box:Blk X g5 31 [dv,dr,mv,.int .i64 ch,hv,ov,tv]
 tape:zgf X U g m
 kept:z6t [g] w X
 sbr:SbV dr=false
 gU:g<U
 U5:U≤g5
 Uw:U≤w.heap.size
 w5:w.heap.size≤g5
section
variable {w X X' : World} {U g g5 m m' : Nat} {D : List Rev} {es : List zd8} {ch : Int} {hs : List Hav} {op dt : List ByteArray} {dv dr mv hv ov tv : Value}
theorem ScB.nosb (h:ScB w X U g g5 m D es ch hs op dt dv dr mv hv ov tv):∀ x∈[g5],zos X x:=fun x hx=>by
 rw[List.mem_singleton] at hx;subst hx;refine zos.blk h.box fun u hu=>?_;simp only[List.mem_cons,List.not_mem_nil,or_false] at hu
 rcases hu with rfl | rfl | rfl | rfl | rfl | rfl | rfl
 ·exact Row.sb h.at_.revs
 ·exact h.sbr
 ·exact Row.sb h.at_.ents.1
 ·rfl
 ·exact Row.sb h.at_.havs
 ·exact Row.sb h.at_.opn
 ·exact Row.sb h.at_.drt
theorem ScB.next (h:ScB w X U g g5 m D es ch hs op dt dv dr mv hv ov tv)(hK:z6t [g] X X')(hT:zgf X' U g m'):ScB w X' U g g5 m' D es ch hs op dt dv dr mv hv ov tv:=by
 have h1:=h.gU;have h2:=h.U5;exact⟨h.at_.keptN hK h.tape.nosb,hK.blk h.box (by simp;omega),hT,h.kept.trans hK,h.sbr,h.gU,h.U5,h.Uw,h.w5⟩
theorem ScB.under (h:ScB w X U g g5 m D es ch hs op dt dv dr mv hv ov tv)(hb:Below X.heap.size X X'):ScB w X' U g g5 m D es ch hs op dt dv dr mv hv ov tv:=h.next (z6t.below hb) (h.tape.below hb)
theorem ScB.put (h:ScB w X U g g5 m D es ch hs op dt dv dr mv hv ov tv)(i:Nat)(u:Value){ch':Int}{hs':List Hav}{op' dt':List ByteArray}{hv' ov' tv':Value}(he:[dv,dr,mv,.int .i64 ch,hv,ov,tv].set i u=[dv,dr,mv,.int .i64 ch',hv',ov',tv'])(h1:z4b X hv' hs')(h2:Strs X ov' op')(h3:Strs X tv' dt'):
  ScB w (X.setCell ⟨g5,i,none⟩ u) U g g5 m D es ch' hs' op' dt' dv dr mv hv' ov' tv':=by
 have hK:z6t [g5] X (X.setCell ⟨g5,i,none⟩ u):=z6t.grown (z6u X g5 i u) (by simp)
 have hb:Below w.heap.size X (X.setCell ⟨g5,i,none⟩ u):=(Below.refl _ _).setCell (p:=⟨g5,i,none⟩) h.w5 u;have hs:=h.nosb;have ha:=h.at_;refine⟨⟨ha.revs.keptN hK hs,ha.ents.keptN hK hs,h1.keptN hK hs,h2.keptN hK hs,h3.keptN hK hs⟩,?_,h.tape.onto h.Uw hb,h.kept.onto hb,h.sbr,h.gU,h.U5,h.Uw,h.w5⟩;have hX:=h.box.set_ i u;rw[he] at hX;exact hX
end
end Go.Proofs.YtegeboijhifmcaaGreatDoor
