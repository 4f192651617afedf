/- A part. -/
import Derived.Test.YtlnjaagijaadmaaGreatDoorMvw29
set_option linter.unusedVariables false
set_option linter.unusedSimpArgs false
set_option maxHeartbeats 16000000
set_option maxRecDepth 100000
namespace Go.Proofs.YtlnjaagijaadmaaGreatDoor
open Go.Proofs.Tryz
open Go.RowKit
def zgm (w:zW)(e:Ending)(w':zW):Prop:=(∃ n:Int,e=.returned (zI n))/\zB w w'
theorem zgn (d:Dep)(c:Chg)(dv dr:zV)(Ae Ac:zP)(ce cc i:Nat)(w:zW)(he:Env w)(hR:z3w w dv d.revs)(hl:d.revs.length<=100000)(hE:z3x w (zL Ae c.edits.length ce) c.edits)(hi:i<c.edits.length)(hel:c.edits.length<=100000)
  (hsz:∀ e∈c.edits,e.kt.size<=2000000/\0<=e.base/\e.base<=1000000):
  Calls prog 130 #[.agg #[dv,dr],.agg #[zI c.num,zS c.client,zS c.text,zL Ae c.edits.length ce,zL Ac c.recs.length cc],zI i] w (zgm w):=by
 obtain⟨Ar,cr,rfl,-⟩:=id hR;have HR:=hd_ hR;have HE:=hd_ hE;have HEN:=hd_ he;have HLIVE:=hd_ (fun p X (hX:zB w X)=>zgk d.revs p (zL Ar d.revs.length cr) dr X (HR.kw hX) (by omega))
 have HSZ:=hd_ hsz;clear hR hE he hsz;have hb0:zB w ((w.alloc (zC #[zL Ar d.revs.length cr,dr] 27)).alloc (zC #[zI c.num,zS c.client,zS c.text,zL Ae c.edits.length ce,zL Ac c.recs.length cc] 93)):=(zR).alloc (by simp) _
 have hC:Blk ((w.alloc (zC #[zL Ar d.revs.length cr,dr] 27)).alloc (zC #[zI c.num,zS c.client,zS c.text,zL Ae c.edits.length ce,zL Ac c.recs.length cc] 93)) (w.heap.size+1) 93 [zI c.num,zS c.client,zS c.text,zL Ae c.edits.length ce,zL Ac c.recs.length cc]:=by
  have h1:=z0l (w.alloc (zC #[zL Ar d.revs.length cr,dr] 27)) [zI c.num,zS c.client,zS c.text,zL Ae c.edits.length ce,zL Ac c.recs.length cc] 93;simp only[Zl] at h1
  exact h1
 have hD:Blk ((w.alloc (zC #[zL Ar d.revs.length cr,dr] 27)).alloc (zC #[zI c.num,zS c.client,zS c.text,zL Ae c.edits.length ce,zL Ac c.recs.length cc] 93)) w.heap.size 27 [zL Ar d.revs.length cr,dr]:=(z0l w _ _).alloc _;have hld0:=fun X (hX:zB w X)=>z3x.at_ (HE.out.kw hX) hi;have HXM0:=hd_ (HSZ _ (Za hi));generalize c.edits[i]=x at hld0 HXM0;have HXM:Hid (x.kt.size<=2000000):=hd_ HXM0.1;have HLD:=hd_ hld0;clear hld0;have HT8:=hd_ (fun T hT R g3 g4 g7 W hR hD hC hX hRR=>weT8 T hT R d.revs c x Ar Ae Ac dr cr ce cc g3 g4 g7 W hR hl hD hC hX hRR);go_enter func130,ntmps130;go_upto_region 1 with fail;generalize (w.alloc (zC #[zL Ar d.revs.length cr,dr] 27)).alloc (zC #[zI c.num,zS c.client,zS c.text,zL Ae c.edits.length ce,zL Ac c.recs.length cc] 93)=W1 at hb0 hC hD |-;obtain⟨k0,k1,k2,k3,k4⟩:=zgf hC;obtain⟨ad,rfl,hab,hld⟩:=HLD.out _ hb0;have hiz:(i:Int)<(c.edits.length:Int):=by omega
 obtain⟨x0,x1,x2,x3,x4,x5,x6,x7,x8,x9,x10,x11⟩:=hld;have hX:=z0l W1 [zS x.kt,zI x.act,zI x.ty.base,.bool x.ty.k,.bool x.ty.l,.bool x.ty.x,.int .u64 x.sum,zI x.size,zI x.base,zS x.frm,zI x.fnum,zI x.fence] 88;have hA1:=hb0.alloc hb0.size (zC #[zS x.kt,zI x.act,zI x.ty.base,.bool x.ty.k,.bool x.ty.l,.bool x.ty.x,.int .u64 x.sum,zI x.size,zI x.base,zS x.frm,zI x.fnum,zI x.fence] 88);have HC1:=hd_ (hC.alloc (zC #[zS x.kt,zI x.act,zI x.ty.base,.bool x.ty.k,.bool x.ty.l,.bool x.ty.x,.int .u64 x.sum,zI x.size,zI x.base,zS x.frm,zI x.fnum,zI x.fence] 88));have HD1:=hd_ (hD.alloc (zC #[zS x.kt,zI x.act,zI x.ty.base,.bool x.ty.k,.bool x.ty.l,.bool x.ty.x,.int .u64 x.sum,zI x.size,zI x.base,zS x.frm,zI x.fnum,zI x.fence] 88));go_upto_region 2 with fail;clear x0 x1 x2 x3 x4 x5 x6 x7 x8 x9 x10 x11 k0 k1 k2 k3 k4 hC hD hb0;generalize W1.alloc (zC #[zS x.kt,zI x.act,zI x.ty.base,.bool x.ty.k,.bool x.ty.l,.bool x.ty.x,.int .u64 x.sum,zI x.size,zI x.base,zS x.frm,zI x.fnum,zI x.fence] 88)=W2 at hX hA1 HC1 HD1 |-;generalize W1.heap.size=g7 at hX |-;have HX1:=hd_ hX;have HW1:=hd_ hA1;clear hX hA1;obtain⟨c0,c1,c2,c3,c4,c5,c6,c7,c8,c9,c10,c11⟩:=z57 HX1.out;cases hdp:z2w x.kt.data.toList 2 with
 | none =>
  have HPN:=hd_ (za3 x.kt W2 (HEN.kw HW1) HXM hdp);clear hdp;go_wp2_with fail;refine HPN.mono ?_;rintro e w2 ⟨rfl,hb2⟩;have HB2:=hd_ hb2;clear hb2;go_wp2_with fail;go_ret;exact⟨⟨_,rfl⟩,z0r HW1 HB2⟩
 | some ps =>
  have HPS:=hd_ (za2 x.kt ps W2 (HEN.kw HW1) HXM hdp);have hA2:zB W2 (W2.alloc (.cells (z9a ps).toArray 9)):=zR;clear hdp;go_wp2_with fail;refine HPS.mono ?_;rintro e w2 ⟨rfl,rfl⟩;have HX2:=hd_ (HX1.kw hA2 HX1.lt);have HC2:=hd_ (HC1.kw hA2 HC1.lt);have HD2:=hd_ (HD1.kw hA2 HD1.lt);have HW2:=hd_ (z0r HW1 hA2);clear hA2 c0 c1 c2 c3 c4 c5 c6 c7 c8 c9 c10 c11;generalize W2.alloc (.cells (z9a ps).toArray 9)=w2 at HX2 HC2 HD2 HW2 |-;generalize zL (some ⟨W2.heap.size,0,none⟩) ps.length ps.length=pv;obtain⟨c0,c1,c2,c3,c4,c5,c6,c7,c8,c9,c10,c11⟩:=z57 HX2.out;by_cases h200:200<x.kt.size
  case pos =>
   have q:decide ((200:Int)<(x.kt.size:Int))=true:=by simp;omega
   clear h200;go_wp2_with fail;go_ret;exact⟨⟨_,rfl⟩,HW2⟩
  have q:decide ((200:Int)<(x.kt.size:Int))=false:=by simp;omega
  clear h200;go_upto_region 5 with fail;clear q;go_cut [49] (fun v wx=>∃ bb,v=.bool bb/\Hid (zB w2 wx))
  case first =>
   by_cases h0:i=0
   ·have d0:decide (0<i)=false:=by simp;omega
    have d1:decide ((0:Int)<(i:Int))=false:=by simp;omega
    clear h0;go_quiet (fail)
    go_wp2_with fail;go_meet
    exact⟨false,rfl,hd_ (z0p (Zb _ _) _)⟩
   ·obtain⟨j,rfl⟩:∃ j,i=j+1:=⟨i - 1,by omega⟩
    have hj:j<c.edits.length:=by omega
    obtain⟨ad2,had,hab2,hld2⟩:=z3x.at_ (HE.out.kw HW2.out) hj;injection had with had
    subst had;have HSY:=hd_ (HSZ _ (Za hj));generalize c.edits[j]=y at hld2 HSY;have e0:=hld2.1;obtain⟨k0,k1,k2,k3,k4⟩:=zgf HC2.out;have d0:decide (0<j+1)=true:=by simp
    have d1:decide ((0:Int)<((j+1:Nat):Int))=true:=decide_eq_true (by omega)
    have d2:decide ((0:Int)<(j:Int)+1)=true:=decide_eq_true (by omega)
    have hwp:IntKind.i64.wrap (j:Int)=(j:Int):=by rw[IntKind.wrap_i64];omega
    have hjz:(j:Int)<(c.edits.length:Int):=by omega
    have HOR:=hd_ (fun X (hX:zB w2 X)=>zga y.kt x.kt X (HEN.kw (z0r HW2 hX)) HSY.1 HXM);clear hld2 h0;refine wp_region_noPanic ?_;first
     | go_region_law (go_simp;go_at_call 114;refine (HOR _ (Zb _ _).drew).mono ?_;rintro e w5 ⟨n,rfl,hb5,hn⟩;have HB5:=hd_ ((Zb w2.heap.size w2).drew.trans hb5);clear hb5 hn)
     | fail
    all_goals
     refine NoPanic.normal ?_;go_wp2_with fail;go_meet
     exact⟨decide (0<=n),rfl,HB5⟩
  case rest =>
   obtain⟨bb,rfl,HBB⟩:=hcut;have HW3:=hd_ (z0r HW2 HBB);have HX3:=hd_ (HX2.kw HBB HX2.lt);have HD3:=hd_ (HD2.kw HBB HD2.lt);have HC3:=hd_ (HC2.kw HBB HC2.lt);cases bb with
   | true =>
    go_wp2_with fail;go_ret;exact⟨⟨_,rfl⟩,HW3⟩
   | false =>
    clear HBB;generalize wc=w30 at HW3 HX3 HD3 HC3 |-;obtain⟨d0,d1,-,-⟩:=box2 HD3.out;obtain⟨c0,c1,c2,c3,c4,c5,c6,c7,c8,c9,c10,c11⟩:=z57 HX3.out;have HLV1:=hd_ (HLIVE x.kt w30 HW3);go_upto_region 7 with fail;go_cut [10,11] (fun v10 v11 wx=>∃(lv:Bool) (ln:Int),v10=.bool lv/\v11=zI ln/\Hid (zB w30 wx))
    case first =>
     go_wp2_with fail;refine HLV1.mono ?_;rintro e w3 ⟨rfl,hb3⟩;have HB3:=hd_ hb3;clear hb3;go_wp2_with fail;go_meet
     exact⟨_,_,rfl,rfl,HB3⟩
    case rest =>
     obtain⟨lv,ln,rfl,rfl,HV⟩:=hcut;have hk:=‹∀(a:Act) (w:zW),Code.wp _ _ _ a w->_›;refine hk _ _ (HT8 _ (by kernel_rfl) _ _ _ _ _ (HR.kw (z0r HW3 HV)) (HD3.kw HV HD3.lt) (HC3.kw HV HC3.lt) (HX3.kw HV HX3.lt) (fun n w' hb=>⟨⟨n,rfl⟩,z0r (z0r HW3 HV) hb⟩) _ _ _ _ _ _ _ _ _ _ _ _ _ _ _ _ _ _ _ _ _ _ _ _ _ _ _ _ _ _ _ _ _ _ _ _ _ _ _ _ _ _ _ _ _ _ _ _ _ _ _ _ _ _ _ _ _ _ _ _ _ _ _ _ _ _ _ _ _ _ _ _ _ _ _ _ _ _ _ _ _ _ _ _ _ _ _ _ _ _ _ _ _ _ _ _ _ _ _ _ _ _ _ _ _ _ _ _ _ _ _ _ _ _ _ _ _ _ _ _ _ _ _ _ _ _ _ _ _ _ _ _ _ _ _ _ _ _ _ _ _ _ _ lv ln HXM0.2)
theorem zgt (D:List Rev)(es:List Edt)(num:Int)(Ar Aq Ae:zP)(cr cq ce:Nat)(w:zW)(he:Env w)(hR:z3w w (zL Ar D.length cr) D)(hl:D.length<=1000)(hE:z3x w (zL Ae es.length ce) es)(hel:es.length<=6)
  (hsz:∀ e∈es,e.kt.size<=2000000/\0<=e.base/\e.base<=1000000):
  Calls prog 76 #[.agg #[zL Ar D.length cr,zL Aq 0 cq],.agg #[zI num,zS ⟨#[]⟩,zS ⟨#[]⟩,zL Ae es.length ce,zL none 0 0]] w (zgm w):=by
 have hb0:zB w ((w.alloc (zC #[zL Ar D.length cr,zL Aq 0 cq] 27)).alloc (zC #[zI num,zS ⟨#[]⟩,zS ⟨#[]⟩,zL Ae es.length ce,zL none 0 0] 93)):=(zR).alloc (by simp) _
 have hC:Blk ((w.alloc (zC #[zL Ar D.length cr,zL Aq 0 cq] 27)).alloc (zC #[zI num,zS ⟨#[]⟩,zS ⟨#[]⟩,zL Ae es.length ce,zL none 0 0] 93)) (w.heap.size+1) 93 [zI num,zS ⟨#[]⟩,zS ⟨#[]⟩,zL Ae es.length ce,zL none 0 0]:=by
  have h1:=z0l (w.alloc (zC #[zL Ar D.length cr,zL Aq 0 cq] 27)) [zI num,zS ⟨#[]⟩,zS ⟨#[]⟩,zL Ae es.length ce,zL none 0 0] 93;simp only[Zl] at h1
  exact h1
 have hD:Blk ((w.alloc (zC #[zL Ar D.length cr,zL Aq 0 cq] 27)).alloc (zC #[zI num,zS ⟨#[]⟩,zS ⟨#[]⟩,zL Ae es.length ce,zL none 0 0] 93)) w.heap.size 27 [zL Ar D.length cr,zL Aq 0 cq]:=(z0l w _ _).alloc _;have HRV:=hd_ (fun X (hX:zB w X)=>z3w.kw hR hX);have HEV:=hd_ (fun X (hX:zB w X)=>z3x.kw hE hX);have HED:=hd_ (fun(i:Nat) (hi:i<es.length) X (hX:zB w X)=>zgn ⟨D,[]⟩ ⟨num,⟨#[]⟩,⟨#[]⟩,es,[]⟩ _ (zL Aq 0 cq) Ae none ce 0 i X (he.kw hX) (z3w.kw hR hX) (by show D.length<=100000;omega) (z3x.kw hE hX) hi (by show es.length<=100000;omega) hsz)
 have HMV:=hd_ (fun(x:Edt) X (hX:zB w X)=>zgs es num ⟨#[]⟩ ⟨#[]⟩ Ae none 0 ce 0 x X (z3x.kw hE hX) (by omega))
 clear he hR hE hsz;go_enter func76,ntmps76;go_upto_region 1 with fail;generalize (w.alloc (zC #[zL Ar D.length cr,zL Aq 0 cq] 27)).alloc (zC #[zI num,zS ⟨#[]⟩,zS ⟨#[]⟩,zL Ae es.length ce,zL none 0 0] 93)=W1 at hb0 hC hD |-;have HA:=hd_ hb0;have HC:=hd_ hC;have HD:=hd_ hD;have HX:Hid (∀ X,zB W1 X->(X.cell? ⟨w.heap.size,0,none⟩=some (.slice Ar D.length cr)/\X.cell? ⟨w.heap.size,1,none⟩=some (.slice Aq 0 cq))/\X.cell? ⟨w.heap.size+1,0,none⟩=some (zI num)/\X.cell? ⟨w.heap.size+1,1,none⟩=some (zS ⟨#[]⟩)/\X.cell? ⟨w.heap.size+1,2,none⟩=some (zS ⟨#[]⟩)/\X.cell? ⟨w.heap.size+1,3,none⟩=some (.slice Ae es.length ce)/\X.cell? ⟨w.heap.size+1,4,none⟩=some (.slice none 0 0)):=hd_ fun X hX=>by
  have h1:=HD.out.kw hX HD.out.lt;have h2:=HC.out.kw hX HC.out.lt;exact⟨⟨h1.cell 0,h1.cell 1⟩,h2.cell 0,h2.cell 1,h2.cell 2,h2.cell 3,h2.cell 4⟩
 have HRT:Hid (∀(n:Int) X,zB W1 X->zgm w (.returned (zI n)) X):=hd_ fun n X hX=>⟨⟨n,rfl⟩,z0r HA hX⟩;clear hb0 hC hD;obtain⟨⟨d0,d1⟩,k0,k1,k2,k3,k4⟩:=HX.out W1 (Zb _ _);by_cases h0:es.length=0
 ·have q0:((es.length:Int) == 0)=true:=by simpa using h0
  clear h0;go_wp2_with fail;go_ret;exact HRT _ _ (Zb _ _)
 have q0:((es.length:Int) == 0)=false:=by simpa using h0
 have q64:decide ((64:Int)<(es.length:Int))=false:=by simp;omega
 by_cases h1:num<=0
 ·have q1:decide (num<=0)=true:=by simpa using h1
  clear h1 h0;go_wp2_with fail;go_ret;exact HRT _ _ (Zb _ _)
 have q1:decide (num<=0)=false:=by simpa using h1
 by_cases h2:1073741824<num
 ·have q2:decide (1073741824<num)=true:=by simpa using h2
  clear h2 h1 h0;go_wp2_with fail;go_ret;exact HRT _ _ (Zb _ _)
 have q2:decide (1073741824<num)=false:=by simpa using h2
 clear h2 h1 h0;go_wp2_with fail;clear d0 d1 k0 k1 k2 k3 k4 q0 q64 q1 q2;go_loopw [39] (fun i wr=>∃ k:Nat,i=zI k/\k<=D.length/\Hid (zB W1 wr)) (fun i _=>D.length - (intOf i).toNat)
 exact⟨0,rfl,Zg _,hd_ (Zb _ _)⟩
 obtain⟨k,rfl,hk,HI⟩:=hrel;by_cases hlt:k<D.length
 ·obtain⟨ad,rfl,hab,x0,x1,x2,x3,x4,x5,x6,x7,x8,x9,x10,x11⟩:=(HRV.out wr (z0r HA.out HI.out)).at_ hlt;generalize D[k]=r at x0 x1 x2 x3 x4 x5 x6 x7 x8 x9 x10 x11;have hX:zB wr (wr.alloc (zC #[zS r.kt,zI r.num,zI r.chg,zI r.act,zI r.ty.base,.bool r.ty.k,.bool r.ty.l,.bool r.ty.x,.int .u64 r.sum,zI r.size,zS r.frm,zI r.fnum] 78)):=zR;have hN:=z0l wr [zS r.kt,zI r.num,zI r.chg,zI r.act,zI r.ty.base,.bool r.ty.k,.bool r.ty.l,.bool r.ty.x,.int .u64 r.sum,zI r.size,zS r.frm,zI r.fnum] 78;have HB:=hd_ (z0r HI hX);have HLT:=hd_ hlt;clear hX hab hlt;go_upto_region 8 with fail;clear x0 x1 x2 x3 x4 x5 x6 x7 x8 x9 x10 x11;generalize wr.alloc (zC #[zS r.kt,zI r.num,zI r.chg,zI r.act,zI r.ty.base,.bool r.ty.k,.bool r.ty.l,.bool r.ty.x,.int .u64 r.sum,zI r.size,zS r.frm,zI r.fnum] 78)=W5 at hN HB |-;generalize wr.heap.size=g6 at hN |-;have y2:W5.cell? ⟨g6,2,none⟩=some (zI r.chg):=hN.cell 2;obtain⟨-,k0,-⟩:=HX.out W5 HB.out;obtain⟨b,q⟩:∃ b,decide (num<=r.chg)=b:=⟨_,rfl⟩;clear hN;cases b with
  | true =>
   go_wp2_with fail;go_ret;exact HRT _ _ HB
  | false =>
   go_wp2_with fail;go_roundw
   exact⟨k+1,by go_num,by have:=HLT.out;omega,HB⟩
   have:=HLT.out;simp [intOf];omega
 ·have hke:k=D.length:=by omega
  subst hke;have HB1:=hd_ HI;have hge:¬((D.length:Int)<(D.length:Int)):=by omega
  obtain⟨-,k0,k1,k2,k3,k4⟩:=HX.out wr HI.out;clear HI;go_wp2_with fail;clear k0 k1 k2 k3 k4;go_loopw [52] (fun i wr=>∃ k:Nat,i=zI k/\k<=es.length/\Hid (zB W1 wr)) (fun i _=>es.length - (intOf i).toNat)
  exact⟨0,rfl,Zg _,HB1⟩
  obtain⟨k,rfl,hk,HI⟩:=hrel;by_cases hlt:k<es.length
  ·have HEC:=hd_ (HED k hlt wr (z0r HA HI));obtain⟨⟨d0,d1⟩,k0,k1,k2,k3,k4⟩:=HX.out wr HI.out;have HLT:=hd_ hlt;clear hlt;go_wp2_with fail;refine HEC.mono ?_;rintro e w5 ⟨⟨n,rfl⟩,hb⟩;dsimp only;have HB:=hd_ (z0r HI hb);obtain⟨b,q⟩:∃ b,(n != 0)=b:=⟨_,rfl⟩;clear hb HEC d0 d1 k0 k1 k2 k3 k4;cases b with
   | true =>
    go_wp2_with fail;go_ret;exact HRT _ _ HB
   | false =>
    go_wp2_with fail;go_roundw
    exact⟨k+1,by go_num,by have:=HLT.out;omega,HB⟩
    have:=HLT.out;simp [intOf];omega
  ·have hke:k=es.length:=by omega
   subst hke;have HB2:=hd_ HI;have hge:¬((es.length:Int)<(es.length:Int)):=by omega
   obtain⟨-,k0,k1,k2,k3,k4⟩:=HX.out wr HI.out;clear HI;go_wp2_with fail;clear k0 k1 k2 k3 k4;go_loopw [66] (fun i wr=>∃ k:Nat,i=zI k/\k<=es.length/\Hid (zB W1 wr)) (fun i _=>es.length - (intOf i).toNat)
   exact⟨0,rfl,Zg _,HB2⟩
   obtain⟨k,rfl,hk,HI⟩:=hrel;by_cases hlt:k<es.length
   ·obtain⟨ad,rfl,hab,x0,x1,x2,x3,x4,x5,x6,x7,x8,x9,x10,x11⟩:=(HEV.out wr (z0r HA.out HI.out)).at_ hlt;generalize es[k]=x at x0 x1 x2 x3 x4 x5 x6 x7 x8 x9 x10 x11;have hX:zB wr (wr.alloc (zC #[zS x.kt,zI x.act,zI x.ty.base,.bool x.ty.k,.bool x.ty.l,.bool x.ty.x,.int .u64 x.sum,zI x.size,zI x.base,zS x.frm,zI x.fnum,zI x.fence] 88)):=zR;have hN:=z0l wr [zS x.kt,zI x.act,zI x.ty.base,.bool x.ty.k,.bool x.ty.l,.bool x.ty.x,.int .u64 x.sum,zI x.size,zI x.base,zS x.frm,zI x.fnum,zI x.fence] 88;have HB:=hd_ (z0r HI hX);have HLT:=hd_ hlt;clear hX hab hlt;go_upto_region 21 with fail;clear x0 x1 x2 x3 x4 x5 x6 x7 x8 x9 x10 x11;generalize wr.alloc (zC #[zS x.kt,zI x.act,zI x.ty.base,.bool x.ty.k,.bool x.ty.l,.bool x.ty.x,.int .u64 x.sum,zI x.size,zI x.base,zS x.frm,zI x.fnum,zI x.fence] 88)=W5 at hN HB |-;generalize wr.heap.size=g10 at hN |-;obtain⟨y0,y1,y2,y3,y4,y5,y6,y7,y8,y9,y10,y11⟩:=z57 hN;obtain⟨-,k0,k1,k2,k3,k4⟩:=HX.out W5 HB.out;have HMC:=hd_ (HMV x W5 (z0r HA HB));generalize zgp es x=b at HMC;clear hN;cases b
    all_goals
     go_wp2_with fail;refine HMC.mono ?_;rintro e w6 ⟨rfl,hb⟩;dsimp only;have HB6:=hd_ (z0r HB hb);clear hb y0 y1 y2 y3 y4 y5 y6 y7 y8 y9 y10 y11 k0 k1 k2 k3 k4 HMC
    ·go_wp2_with fail;go_ret;exact HRT _ _ HB6
    ·go_wp2_with fail;go_roundw
     exact⟨k+1,by go_num,by have:=HLT.out;omega,HB6⟩
     have:=HLT.out;simp [intOf];omega
   ·have hke:k=es.length:=by omega
    subst hke;have HB3:=hd_ HI;have hge:¬((es.length:Int)<(es.length:Int)):=by omega
    obtain⟨-,k0,k1,k2,k3,k4⟩:=HX.out wr HI.out;clear HI;go_wp2_with fail;clear k0 k1 k2 k3 k4;go_loopw [78] (fun i wr=>i=zI 0/\Hid (zB W1 wr)) (fun i _=>0)
    exact⟨rfl,HB3⟩
    obtain⟨rfl,HI⟩:=hrel;obtain⟨⟨d0,d1⟩,k0,k1,k2,k3,k4⟩:=HX.out wr HI.out;obtain⟨b,q⟩:∃ b,decide ((512:Int)<(D.length:Int)+(es.length:Int))=b:=⟨_,rfl⟩;have hwz:IntKind.i64.wrap ((D.length:Int)+(es.length:Int))=(D.length:Int)+(es.length:Int):=by rw[IntKind.wrap_i64];omega
    cases b
    all_goals
     go_wp2_with fail;go_ret;exact HRT _ _ HI
section
variable {u0 u1 u2 u3 u4 u5 u6 u7 u8 u9 gF gG gH gI gJ gK gL gM gN gO gP gQ gR gT gV gW gX gY gZ i6 i7 i8 ia ib ic ie ig ii ij ik il im io ip iq ir iu iv iw iy : zV}
theorem zgu (n:Int)(es:List Edt)(k:Nat)(h:k<es.length):((es.take (k+1)).map (zgg n)).flatMap Rev.cells=((es.take k).map (zgg n)).flatMap Rev.cells++(zgg n es[k]).cells:=by
 rw[Zr h,Zs,ZI,ZN,List.map_nil,ZG,List.flatMap_nil,ZM]
theorem zgv (l:List Rev):∀ u∈l.flatMap Rev.cells,u.oneCell'=true:=by
 intro u hu;obtain⟨x,-,hx⟩:=List.mem_flatMap.1 hu;simp only[Rev.cells,Zn,ZO,or_false] at hx
 rcases hx with rfl | rfl | rfl | rfl | rfl | rfl | rfl | rfl | rfl | rfl | rfl | rfl <;> rfl
theorem zgw {w w':zW}{row:Option Nat}(h:w.grownBy w' row)(hr:row=none):zB w w':=⟨h.os,h.tape,h.output,h.size,fun k hk=>h.block k hk (by rw[hr];exact fun e=>by cases e)⟩
theorem zgx (A:zP)(c:Nat)(w:zW):Calls prog 78 #[zL A 0 c] w fun e w'=>e=.returned (zL A 0 c)/\zB w w':=by
 go_enter func78,ntmps78;go_wp2_with fail;go_loopw [7] (fun i wr=>i=zI 0/\wr=w) (fun i _=>0)
 exact⟨rfl,rfl⟩
 obtain⟨rfl,rfl⟩:=hrel;go_wp2_with fail;go_ret;exact⟨rfl,Zb _ _⟩
structure WaR (V wx:zW)(g7:Nat)(v1 v2:zV)(n:Nat)(xs:List zV):Prop where
 bel:zB V wx
 le:V.heap.size<=g7
 box:Blk wx g7 27 [v1,v2]
 one:wx.ownsRow V.heap.size 78 12 v1 n xs
 ne1:v1.ownBlock≠some g7
theorem WaR.push {V wr X w5:zW}{g7:Nat}{v1 v2 v3:zV}{n n':Nat}{xs xs':List zV}(h:WaR V wr g7 v1 v2 n xs)(hX:zB wr X)(ho:w5.ownsRow V.heap.size 78 12 v3 n' xs')(hg:X.grownBy w5 v1.ownBlock)(hw:v3.ownBlock=v1.ownBlock\/v3.ownBlock=some X.heap.size):
  WaR V (w5.setCell ⟨g7,0,none⟩ v3) g7 v3 v2 n' xs':=by
 have l1:=h.one.lt;have lb:=h.box.lt;have hs:=hX.size;have n3:v3.ownBlock≠some g7:=fun e=>by
  rcases hw with hw | hw
  ·exact h.ne1 (hw ▸ e)
  ·rw[hw] at e;injection e with e;omega
 have b5:zB V w5:=(z0r h.bel hX).grown hg (by have:=h.bel.size;omega) (fun k e=>(l1 k e).1)
 exact⟨b5.setCell (p:=⟨g7,0,none⟩) h.le _,h.le,((h.box.kw hX lb).grown hg (fun e=>h.ne1 e.symm)).set_ 0 v3,z5c ho (p:=⟨g7,0,none⟩) n3 _,n3⟩
theorem WaR.ku {V wr X:zW}{g7:Nat}{v1 v2:zV}{n:Nat}{xs:List zV}(h:WaR V wr g7 v1 v2 n xs)(hX:zB wr X):WaR V X g7 v1 v2 n xs:=
 ⟨z0r h.bel hX,h.le,h.box.kw hX h.box.lt,z0n h.one hX,h.ne1⟩
theorem waR9 (ops:Array Oper)(hops:Tryz.f35.body.bind (z0w 9)=some ops)(Q:Exit->Act->zW->Prop)(g3 g7 g9 n:Nat)(num:Int)(cl tx:zA)(Ae Ac:zP)(ne nc ce cc:Nat)(x:Edt)(r:Rev)(v1:zV)(xs:List zV)(V V1:zW)
  (hR:WaR V V1 g7 v1 (zL none 0 0) n xs) (hB:Blk V1 g9 88 [zS x.kt,zI x.act,zI x.ty.base,.bool x.ty.k,.bool x.ty.l,.bool x.ty.x,.int .u64 x.sum,zI x.size,zI x.base,zS x.frm,zI x.fnum,zI x.fence]) (hC:Blk V1 g3 93 [zI num,zS cl,zS tx,zL Ae ne ce,zL Ac nc cc]) (hn:n<=100000)
  (hrev:∀ X,zB V1 X->Calls prog 77 #[.agg #[zI num,zS cl,zS tx,zL Ae ne ce,zL Ac nc cc],.agg #[zS x.kt,zI x.act,zI x.ty.base,.bool x.ty.k,.bool x.ty.l,.bool x.ty.x,.int .u64 x.sum,zI x.size,zI x.base,zS x.frm,zI x.fnum,zI x.fence]] X fun e w'=>e=.returned (.agg #[zS r.kt,zI r.num,zI r.chg,zI r.act,zI r.ty.base,.bool r.ty.k,.bool r.ty.l,.bool r.ty.x,.int .u64 r.sum,zI r.size,zS r.frm,zI r.fnum])/\zB X w')
  (hQ:∀(eK eL eM eN eO eP eQ eR:zV) (v3:zV) (w':zW),Hid (WaR V w' g7 v3 (zL none 0 0) (n+1) (xs++[zS r.kt,zI r.num,zI r.chg,zI r.act,zI r.ty.base,.bool r.ty.k,.bool r.ty.l,.bool r.ty.x,.int .u64 r.sum,zI r.size,zS r.frm,zI r.fnum]))->Q .normal ⟨#[u0,u1,u2,.pointer (some ⟨g3,0,none⟩),u4,u5,u6,.pointer (some ⟨g7,0,none⟩),u8,.pointer (some ⟨g9,0,none⟩),gF,gG,gH,gI,gJ,gK,gL,gM,gN,gO,gP,gQ,gR,gT,gV,gW,gX,gY,gZ,i6,eK,eL,eM,eN,eO,eP,eQ,eR,ij,ik,il,im,io,ip,iq,ir,iu,iv,iw,iy],[]⟩ w'):
  (Code.region 9 ops true).wp prog Q ⟨#[u0,u1,u2,.pointer (some ⟨g3,0,none⟩),u4,u5,u6,.pointer (some ⟨g7,0,none⟩),u8,.pointer (some ⟨g9,0,none⟩),gF,gG,gH,gI,gJ,gK,gL,gM,gN,gO,gP,gQ,gR,gT,gV,gW,gX,gY,gZ,i6,i7,i8,ia,ib,ic,ie,ig,ii,ij,ik,il,im,io,ip,iq,ir,iu,iv,iw,iy],[]⟩ V1:=by
 simp only[Tryz.f35,Zp,z0w] at hops
 simp at hops
 subst hops;obtain⟨A1,c1,hv1⟩:=z0o hR.one;subst hv1;have HQ:=hd_ hQ;have HR:=hd_ hR;have HB:=hd_ hB;have HC:=hd_ hC;have HRV2:=hd_ hrev;clear hQ hR hB hrev hC;have f0:V1.cell? ⟨g7,0,none⟩=some (.slice A1 n c1):=HR.box.cell 0;obtain⟨c0,c1',c2,c3,c4,c5,c6,c7,c8,c9,c10,c11⟩:=z57 HB.out;obtain⟨k0,k1,k2,k3,k4⟩:=zgf HC.out;refine wp_region_noPanic ?_;go_region_law (first
  | (refine step_app rfl rfl zfd (z0n (z0n HR.one hS5) (zR)) (by simp [Act.eval,Act.put]) (z0i w5 [zS r.kt,zI r.num,zI r.chg,zI r.act,zI r.ty.base,.bool r.ty.k,.bool r.ty.l,.bool r.ty.x,.int .u64 r.sum,zI r.size,zS r.frm,zI r.fnum] _ 12 1 rfl (by decide) _ rfl) (by simp [Act.eval,Act.put]) (by simp [Value.oneCell']) (by omega) (by unfold maxLen;omega) (by have:=hS5.size;have:=HR.out.bel.size;simp;omega) ?_;intro A6 c6' w6 hO6 hG6 hw6;have hbx:=(HR.out.box.kw (z0r hS5 (zR)) HR.out.box.lt).grown hG6 (fun e=>HR.out.ne1 e.symm);obtain⟨b0,b1,g0,g1⟩:=box2 hbx)
  | (go_simp;go_at_call 77;refine (HRV2 _ (Zb _ _).drew).mono ?_;rintro e w5 ⟨rfl,hX5⟩;have hS5:zB V1 w5:=(Zb _ _).drew.trans hX5;have f5:w5.cell? ⟨g7,0,none⟩=some (.slice A1 n c1):=(HR.box.kw hS5 HR.box.lt).cell 0;have f6:(w5.alloc (zC #[zS r.kt,zI r.num,zI r.chg,zI r.act,zI r.ty.base,.bool r.ty.k,.bool r.ty.l,.bool r.ty.x,.int .u64 r.sum,zI r.size,zS r.frm,zI r.fnum] 78)).cell? ⟨g7,0,none⟩=some (.slice A1 n c1):=(HR.box.kw (hS5.alloc hS5.size _) HR.box.lt).cell 0))
 all_goals exact NoPanic.normal (HQ _ _ _ _ _ _ _ _ _ _ (HR.push (z0r hS5 (zR)) hO6 hG6 hw6))
theorem waR11 (ops:Array Oper)(hops:Tryz.f35.body.bind (z0w 11)=some ops)(Q:Exit->Act->zW->Prop)(g2 g3 g7 n:Nat)(num:Int)(cl tx:zA)(Aq Ae:zP)(ne cq ce:Nat)(v0 v1:zV)(xs:List zV)(V V1:zW)
  (hR:WaR V V1 g7 v1 (zL none 0 0) n xs) (hD:Blk V1 g2 27 [v0,zL Aq 0 cq]) (hC:Blk V1 g3 93 [zI num,zS cl,zS tx,zL Ae ne ce,zL none 0 0]) (hQd:z3y V1 (zL Aq 0 cq) [])
  (hQ:∀(eT eU eV eW eX eY eZ fa fd fe:zV) (A2:zP) (c2:Nat) (w':zW),Hid (zB V w'/\Blk w' g7 27 [v1,zL A2 0 c2]/\w'.ownsRow V.heap.size 78 12 v1 n xs/\z3y w' (zL A2 0 c2) [])->Q .normal ⟨#[u0,u1,.pointer (some ⟨g2,0,none⟩),.pointer (some ⟨g3,0,none⟩),u4,u5,u6,.pointer (some ⟨g7,0,none⟩),u8,u9,gF,gG,gH,gI,gJ,gK,gL,gM,gN,gO,gP,gQ,gR,gT,gV,gW,gX,gY,gZ,i6,i7,i8,ia,ib,ic,ie,ig,ii,ij,eT,eU,eV,eW,eX,eY,eZ,fa,fd,fe,iy],[]⟩ w'):
  (Code.region 11 ops true).wp prog Q ⟨#[u0,u1,.pointer (some ⟨g2,0,none⟩),.pointer (some ⟨g3,0,none⟩),u4,u5,u6,.pointer (some ⟨g7,0,none⟩),u8,u9,gF,gG,gH,gI,gJ,gK,gL,gM,gN,gO,gP,gQ,gR,gT,gV,gW,gX,gY,gZ,i6,i7,i8,ia,ib,ic,ie,ig,ii,ij,ik,il,im,io,ip,iq,ir,iu,iv,iw,iy],[]⟩ V1:=by
 simp only[Tryz.f35,Zp,z0w] at hops
 simp at hops
 subst hops;have HQ:=hd_ hQ;have HR:=hd_ hR;have HQD:=hd_ hQd;have HFF:Hid (∀ w',zB V1 w'->w'.cell? ⟨g2,1,none⟩=some (.slice Aq 0 cq)/\w'.cell? ⟨g3,4,none⟩=some (.slice none 0 0)/\w'.cell? ⟨g7,1,none⟩=some (.slice none 0 0)/\w'.frozen? ⟨g7,1,none⟩=false):=hd_ fun w' hb=>by
  obtain⟨-,a,-,-⟩:=box2 (hD.kw hb hD.lt);obtain⟨-,-,-,-,b⟩:=zgf (hC.kw hb hC.lt);obtain⟨-,c,-,d⟩:=box2 (hR.box.kw hb hR.box.lt);exact⟨a,b,c,d⟩
 have HEND:Hid (∀(A6:zP) (c6:Nat) (w6 w7:zW),zB V1 w7->w6.ownsRow V1.heap.size 140 6 (zL A6 0 c6) 0 []->zB w6 w7->zB V (w7.setCell ⟨g7,1,none⟩ (zL A6 0 c6))/\Blk (w7.setCell ⟨g7,1,none⟩ (zL A6 0 c6)) g7 27 [v1,zL A6 0 c6]/\(w7.setCell ⟨g7,1,none⟩ (zL A6 0 c6)).ownsRow V.heap.size 78 12 v1 n xs/\z3y (w7.setCell ⟨g7,1,none⟩ (zL A6 0 c6)) (zL A6 0 c6) []):=hd_ fun A6 c6 w6 w7 h7 ho h67=>by
  refine⟨(z0r HR.bel h7).setCell (p:=⟨g7,1,none⟩) HR.le _,(HR.box.kw h7 HR.box.lt).set_ 1 _,z5c (z0n HR.one h7) (p:=⟨g7,1,none⟩) HR.ne1 _,?_⟩;obtain⟨A,c,e,hc,hm,hl,h0,-⟩:=Row.of_own ho;exact⟨A,c,e,hc,hm,hl,h0,fun h=>absurd h (by decide)⟩
 clear hQ hR hD hC hQd;obtain⟨f0,f1,f2,f3⟩:=HFF.out V1 (Zb _ _);refine wp_region_noPanic ?_;go_region_law (first
  | (refine step_app (base:=V1.heap.size) (n:=0) (m:=0) (xs:=[]) (news:=[]) rfl rfl zfe (Zv _ _ _ _) (by simp [Act.eval,Act.put];done) (HQD.kw (Zb _ _).drew) (by simp [Act.eval,Act.put];done) (fun u h=>by cases h) (by omega) (by unfold maxLen;omega) (Below.size (B:=V1.heap.size) (w:=V1) (Zb _ _).drew) ?_;intro A5 c5 w5 hO5 hG5 hw5;have hX5:=zgw hG5 rfl;have hS5:zB V1 w5:=z0r (Zb _ _).drew hX5;obtain⟨f4,f5,f6,f7⟩:=HFF.out w5 hS5)
  | (refine step_app (m:=0) (news:=[]) rfl rfl zfe hO5 (by simp [Act.eval,Act.put];done) (z3y.nil_ w5) (by simp [Act.eval,Act.put];done) (fun u h=>by cases h) (by omega) (by unfold maxLen;omega) hS5.size ?_;intro A6 c6 w6 hO6 hG6 hw6;have hS6:zB V1 w6:=hS5.grown hG6 hS5.size (fun k e=>(hO5.lt k e).1);obtain⟨f8,f9,f10,f11⟩:=HFF.out w6 hS6)
  | (go_simp;go_at_call 78;refine (zgx A6 c6 w6).mono ?_;rintro e w7 ⟨rfl,hG7⟩;have hS7:zB V1 w7:=z0r hS6 hG7;obtain⟨f12,f13,f14,f15⟩:=HFF.out w7 hS7))
 all_goals exact NoPanic.normal (HQ _ _ _ _ _ _ _ _ _ _ _ _ _ (HEND A6 c6 w6 w7 hS7 hO6 hG7))
def zgy (w:zW)(D:List Rev)(es:List Edt)(num:Int)(e:Ending)(w':zW):Prop:=
 zB w w'/\((∃ n:Int,n≠0/\e=.returned (.tuple #[.agg #[zL none 0 0,zL none 0 0],zI n])) \/
  ∃(A A2:zP) (c c2:Nat),e=.returned (.tuple #[.agg #[zL A (D.length+es.length) c,zL A2 0 c2],zI 0])/\z3w w' (zL A (D.length+es.length) c) (D++es.map (zgg num))/\(∀ x,(zL A (D.length+es.length) c).ownBlock=some x->w.heap.size<=x/\x<w'.heap.size)/\z3y w' (zL A2 0 c2) [])
def WaI (V wr:zW)(g7:Nat)(D:List Rev)(es:List Edt)(num:Int)(k:Nat):Prop:=∃ v1,WaR V wr g7 v1 (zL none 0 0) (D.length+k) (D.flatMap Rev.cells++((es.take k).map (zgg num)).flatMap Rev.cells)
theorem zgz (D:List Rev)(es:List Edt)(num:Int)(Ar Aq Ae:zP)(cr cq ce:Nat)(w:zW)(he:Env w)(hR:z3w w (zL Ar D.length cr) D)(hl:D.length<=1000)(hE:z3x w (zL Ae es.length ce) es)(hel:es.length<=6)
  (hsz:∀ e∈es,e.kt.size<=2000000/\0<=e.base/\e.base<=1000000) (hQ:z3y w (zL Aq 0 cq) []):
  Calls prog 35 #[.agg #[zL Ar D.length cr,zL Aq 0 cq],.agg #[zI num,zS ⟨#[]⟩,zS ⟨#[]⟩,zL Ae es.length ce,zL none 0 0]] w (zgy w D es num):=by
 have HEN:=hd_ he;have HR:=hd_ hR;have HQ:=hd_ hQ;have HE:=hd_ hE;have HSZ:=hd_ hsz;obtain⟨W1,hW1⟩:∃ W,W=((w.alloc (zC #[zL Ar D.length cr,zL Aq 0 cq] 27)).alloc (zC #[zI num,zS ⟨#[]⟩,zS ⟨#[]⟩,zL Ae es.length ce,zL none 0 0] 93)).alloc (zC #[zL none 0 0,zL none 0 0] 27):=⟨_,rfl⟩;have hb1:zB w W1:=by rw[hW1];exact ((zR).alloc (by simp) _).alloc (by simp;omega) _
 have hD1:Blk W1 w.heap.size 27 [zL Ar D.length cr,zL Aq 0 cq]:=by rw[hW1];exact ((z0l w _ _).alloc _).alloc _
 have hC1:Blk W1 (w.heap.size+1) 93 [zI num,zS ⟨#[]⟩,zS ⟨#[]⟩,zL Ae es.length ce,zL none 0 0]:=by
  rw[hW1];have:=z0l (w.alloc (zC #[zL Ar D.length cr,zL Aq 0 cq] 27)) [zI num,zS ⟨#[]⟩,zS ⟨#[]⟩,zL Ae es.length ce,zL none 0 0] 93;simp only[Zl] at this
  exact this.alloc _
 have hZ1:Blk W1 (w.heap.size+1+1) 27 [zL none 0 0,zL none 0 0]:=by
  rw[hW1];have:=z0l ((w.alloc (zC #[zL Ar D.length cr,zL Aq 0 cq] 27)).alloc (zC #[zI num,zS ⟨#[]⟩,zS ⟨#[]⟩,zL Ae es.length ce,zL none 0 0] 93)) [zL none 0 0,zL none 0 0] 27;simp only[Zl] at this
  exact this
 have HW1:=hd_ hW1;have Hb1:=hd_ hb1;have HD1:=hd_ hD1;have HC1:=hd_ hC1;have HZ1:=hd_ hZ1;have HCK:=hd_ (zgt D es num Ar Aq Ae cr cq ce W1 (he.kw hb1) (z3w.kw hR hb1) hl (z3x.kw hE hb1) hel hsz);clear hW1 hb1 hD1 hC1 hZ1 he hR hE hsz hQ;go_enter func35,ntmps35;go_upto_region 1 with fail;rw[<- HW1.out];obtain⟨d0,d1,-,-⟩:=box2 HD1.out;obtain⟨k0,k1,k2,k3,k4⟩:=zgf HC1.out;go_wp2_with fail;refine HCK.mono ?_;rintro e w2 ⟨⟨e0,rfl⟩,hb2⟩;dsimp only;have HB2:=hd_ hb2;clear hb2 d0 d1 k0 k1 k2 k3 k4 HCK;have HF:=hd_ (fun(W:zW) (n:Int) (hb:zB w W) (hn:n≠0)=>(⟨hb,.inl ⟨n,hn,rfl⟩⟩:zgy w D es num (.returned (.tuple #[.agg #[zL none 0 0,zL none 0 0],zI n])) W));by_cases h0:e0=0
 case neg =>
  have q:(e0 != 0)=true:=by simpa using h0
  have HN:=hd_ h0;clear h0;have hR4:=HZ1.out.kw HB2.out HZ1.out.lt;obtain⟨r0,r1,f0,f1⟩:=box2 hR4;have HBX:=hd_ (z0r Hb1 HB2);go_wp2_with fail;have hR5:=(hR4.set_ 0 (zL none 0 0)).set_ 1 (zL none 0 0);have hB5:=(HBX.out.setCell (p:=⟨w.heap.size+1+1,0,none⟩) (by simp;omega) (zL none 0 0)).setCell (p:=⟨w.heap.size+1+1,1,none⟩) (by simp;omega) (zL none 0 0)
  clear r0 r1 f0 f1 hR4;generalize (w2.setCell ⟨w.heap.size+1+1,0,none⟩ (zL none 0 0)).setCell ⟨w.heap.size+1+1,1,none⟩ (zL none 0 0)=W5 at hR5 hB5 |-;obtain⟨r0,r1,-,-⟩:=box2 hR5;refine bodyPost_ret (v:=.tuple #[.agg #[zL none 0 0,zL none 0 0],zI e0]) (by simp [results,results35,go_sem,r0,r1]) rfl (HF W5 e0 hB5 HN)
 subst h0;clear HF;have hO7:=z0l w2 [zL none 0 0,zL none 0 0] 27;have hA3:zB w2 (w2.alloc (zC #[zL none 0 0,zL none 0 0] 27)):=zR;go_upto_region 5 with fail;generalize w2.alloc (zC #[zL none 0 0,zL none 0 0] 27)=w3 at hO7 hA3 |-;have hW3:=z0r HB2.out hA3;obtain⟨d0,d1,-,-⟩:=box2 (HD1.out.kw hW3 HD1.out.lt);obtain⟨p0,p1,p2,p3⟩:=box2 hO7;have hRW:=z3w.kw HR.out (z0r Hb1.out hW3);have HO7:=hd_ hO7;have HA3:=hd_ hA3;have HRW:=hd_ hRW;clear hO7 hA3 hW3 hRW;go_upto_region 6 with (at_builtin;refine z0j (base:=w3.heap.size) (n:=0) (xs:=[]) rfl rfl zfd (Zv _ _ _ _) rfl HRW rfl (zgv _) (by omega) (by unfold maxLen;omega) (Zd _) ?_;intro A5 c5 w5 hO5 hG5 hw5;have hX5:=zgw hG5 rfl;obtain⟨t0,t1,t2,t3⟩:=box2 (HO7.out.kw hX5 HO7.out.lt))
 rw[ZV,Yc] at hO5;have hAP:WaI w2 (w5.setCell ⟨w2.heap.size,0,none⟩ (zL A5 D.length c5)) w2.heap.size D es num 0:=by
  have hlt:=HO7.out.lt;have n5:(zL A5 D.length c5).ownBlock≠some w2.heap.size:=fun e=>by have:=(hO5.lt _ e).1;omega
  refine⟨zL A5 D.length c5,(z0r HA3 hX5).setCell (p:=⟨w2.heap.size,0,none⟩) (Zd _) _,Zd _,(HO7.kw hX5 hlt).set_ 0 _,?_,n5⟩;rw[List.take_zero,List.map_nil,List.flatMap_nil,ZM];exact z5a (z5c hO5 (p:=⟨w2.heap.size,0,none⟩) n5 _) (Nat.le_of_lt hlt)
 generalize w5.setCell ⟨w2.heap.size,0,none⟩ (zL A5 D.length c5)=w6 at hAP |-;have HAP:=hd_ hAP;have HW6:Hid (zB W1 w6):=hd_ (by obtain⟨v1,h⟩:=hAP;exact z0r HB2 h.bel)
 clear t0 t1 t2 t3 d0 d1 p0 p1 p2 p3 hO5 hG5 hw5 hX5 hAP;obtain⟨k0,k1,k2,k3,k4⟩:=zgf (HC1.out.kw HW6.out HC1.out.lt);have HMD:=hd_ (fun x (hx:x∈es) X=>zgh num ⟨#[]⟩ ⟨#[]⟩ Ae none es.length 0 ce 0 x X (HSZ x hx).2);go_upto_block 0 with fail
 clear k0 k1 k2 k3 k4;go_cut [] (fun wx=>Hid (WaI w2 wx w2.heap.size D es num es.length))
 case first =>
  go_wp2_with fail;go_loopw [26] (fun s wr=>∃ k:Nat,s=zI k/\k<=es.length/\Hid (WaI w2 wr w2.heap.size D es num k)) (fun s _=>es.length - (intOf s).toNat)
  exact⟨0,rfl,Zg _,HAP⟩
  obtain⟨k,rfl,hk,HI⟩:=hrel;by_cases hlt:k<es.length
  ·obtain⟨v1,hAP⟩:=HI.out;obtain⟨ad,rfl,hab,hld⟩:=z3x.at_ (HE.out.kw (z0r (z0r Hb1.out HB2.out) hAP.bel)) hlt;have HNX:Hid (∀ v3 w',WaR w2 w' w2.heap.size v3 (zL none 0 0) (D.length+k+1) (D.flatMap Rev.cells++((es.take k).map (zgg num)).flatMap Rev.cells++(zgg num es[k]).cells)->WaI w2 w' w2.heap.size D es num (k+1)):=hd_ (fun v3 w' h=>⟨v3,by rw[zgu _ _ _ hlt,<- ZE];exact h⟩)
   have HM1:=hd_ (HMD es[k] (Za hlt));have HKB:Hid (D.length+k<=100000):=hd_ (by omega)
   generalize es[k]=x at hld HNX HM1;generalize zgg num x=r at HNX HM1;generalize D.flatMap Rev.cells++((es.take k).map (zgg num)).flatMap Rev.cells=xs at hAP HNX;obtain⟨x0,x1,x2,x3,x4,x5,x6,x7,x8,x9,x10,x11⟩:=hld;have hX:=z0l wr [zS x.kt,zI x.act,zI x.ty.base,.bool x.ty.k,.bool x.ty.l,.bool x.ty.x,.int .u64 x.sum,zI x.size,zI x.base,zS x.frm,zI x.fnum,zI x.fence] 88;have hA1:zB wr (wr.alloc (zC #[zS x.kt,zI x.act,zI x.ty.base,.bool x.ty.k,.bool x.ty.l,.bool x.ty.x,.int .u64 x.sum,zI x.size,zI x.base,zS x.frm,zI x.fnum,zI x.fence] 88)):=zR;have HAP1:=hd_ hAP;clear hAP;go_upto_region 9 with fail;clear x0 x1 x2 x3 x4 x5 x6 x7 x8 x9 x10 x11;generalize wr.alloc (zC #[zS x.kt,zI x.act,zI x.ty.base,.bool x.ty.k,.bool x.ty.l,.bool x.ty.x,.int .u64 x.sum,zI x.size,zI x.base,zS x.frm,zI x.fnum,zI x.fence] 88)=V1 at hX hA1 |-;generalize wr.heap.size=g9 at hX |-;have HX:=hd_ hX;have HA1:=hd_ (HAP1.ku hA1);clear hX hA1;refine waR9 _ (by kernel_rfl) _ (w.heap.size+1) w2.heap.size g9 (D.length+k) num ⟨#[]⟩ ⟨#[]⟩ (some ad) none es.length 0 ce 0 x r v1 xs w2 V1 HA1 HX (HC1.kw (z0r HB2 HA1.bel) HC1.lt) HKB (fun X _=>HM1 X) ?_
   intro eK eL eM eN eO eP eQ eR v3 w7 H7;have HR7:=hd_ (HNX v3 w7 H7);clear H7;go_wp2_with fail;go_roundw
   exact⟨k+1,by go_num,by omega,HR7⟩
   simp [intOf];omega
  ·have hke:k=es.length:=by omega
   have q:decide ((k:Int)<(es.length:Int))=false:=by simp;omega
   have q':decide (k<es.length)=false:=by simp;omega
   have HZ:Hid (WaI w2 wr w2.heap.size D es num es.length):=hd_ (by rw[<- hke];exact HI)
   clear hke;go_wp2_with fail;go_meet
   exact HZ
 case rest =>
  obtain⟨v1,hAP⟩:=hcut.out;rw[ZH,<- ZI] at hAP;have HAP2:=hd_ hAP;have HWC:Hid (zB W1 wc):=hd_ (z0r HB2 hAP.bel);clear hAP hcut;go_upto_region 11 with fail;refine waR11 _ (by kernel_rfl) _ w.heap.size (w.heap.size+1) w2.heap.size (D.length+es.length) num ⟨#[]⟩ ⟨#[]⟩ Aq Ae es.length cq ce (zL Ar D.length cr) v1 _ w2 wc HAP2 (HD1.kw HWC HD1.lt) (HC1.kw HWC HC1.lt) (z3y.kw HQ (z0r Hb1 HWC)) ?_
  intro eT eU eV eW eX eY eZ fa fd fe A2 c2 w7 H7;obtain⟨A8,c8,hv1⟩:=z0o H7.out.2.2.1;subst hv1;have hB7:=z0r HB2.out H7.out.1;have hR4:=HZ1.out.kw hB7 HZ1.out.lt;obtain⟨r0,r1,f0,f1⟩:=box2 hR4;obtain⟨p0,p1,-,-⟩:=box2 H7.out.2.1;have HB7:=hd_ (z0r Hb1 hB7);have HLT:=hd_ HZ1.lt;have HSZ2:=hd_ HB2.size;clear hB7;go_wp2_with fail;have hR5:=(hR4.set_ 0 (zL A8 (D.length+es.length) c8)).set_ 1 (zL A2 0 c2);have hB5:=(HB7.out.setCell (p:=⟨w.heap.size+1+1,0,none⟩) (by simp;omega) (zL A8 (D.length+es.length) c8)).setCell (p:=⟨w.heap.size+1+1,1,none⟩) (by simp;omega) (zL A2 0 c2)
  have n1:(zL A8 (D.length+es.length) c8).ownBlock≠some (w.heap.size+1+1):=fun e=>by have:=(H7.out.2.2.1.lt _ e).1;have:=HLT.out;have:=HSZ2.out;omega
  have k2:=z5c (z5c H7.out.2.2.1 (p:=⟨w.heap.size+1+1,0,none⟩) n1 (zL A8 (D.length+es.length) c8)) (p:=⟨w.heap.size+1+1,1,none⟩) n1 (zL A2 0 c2);have k1:=Row.of_own k2;have k3:=k2.lt;clear k2;have hw2:w.heap.size<=w2.heap.size:=by have:=Hb1.out.size;have:=HSZ2.out;omega
  clear r0 r1 f0 f1 hR4 p0 p1;generalize (w7.setCell ⟨w.heap.size+1+1,0,none⟩ (zL A8 (D.length+es.length) c8)).setCell ⟨w.heap.size+1+1,1,none⟩ (zL A2 0 c2)=W5 at hR5 hB5 k1 k3 |-;obtain⟨r0,r1,-,-⟩:=box2 hR5;refine bodyPost_ret (v:=.tuple #[.agg #[(zL A8 (D.length+es.length) c8),(zL A2 0 c2)],zI 0]) (by simp [results,results35,go_sem,r0,r1]) rfl ?_
  refine⟨hB5,.inr ⟨A8,A2,c8,c2,rfl,?_,fun x hx=>⟨Zf hw2 (k3 x hx).1,(k3 x hx).2⟩,?_⟩⟩
  ·show Row W5 12 _ (D++es.map (zgg num)).length _
   rw[Zc,Zk];exact k1
  ·obtain⟨A,c,e,hc,hm,hl,h0,-⟩:=H7.out.2.2.2;exact⟨A,c,e,hc,hm,hl,h0,fun h=>absurd h (by decide)⟩
end
