/- A part. -/
import Derived.Test.YtlnjaagijaadmaaGreatDoorMvw29
import Derived.Test.YtlnjaagijaadmaaGreatDoorMvw34
import Derived.Test.YtlnjaagijaadmaaGreatDoorMvw33
set_option linter.unusedVariables false
set_option linter.unusedSimpArgs false
set_option maxHeartbeats 8000000
set_option maxRecDepth 100000
namespace Go.Proofs.YtlnjaagijaadmaaGreatDoor
open Go.Proofs.Tryz
open Go.RowKit
open Go.Sort (grow)
section
variable {u0 u1 u2 u3 u4 u5 u6 u7 u8 u9 gF gG gH gI gJ gK gL gM gN gO gP gQ gR gT gV gW gX gY gZ i6 i7 i8 ia ib ic ie ig ii ij ik il im io ip iq ir iu iv iw iy iz iA iB iC iD iE iF iG iH iI iJ iK iL iM iN iO iP iQ iR iS iT iU iV iW iX iY iZ j0 j1 j2 j9 jb jd je jf jg jh ji : zV}
structure R24W (W9:zW)(g g12 g14 n k j:Nat)(pl pr ql qr:Pat)(Al Ar Bl Br H Hy A1 A2:zP)(cl cr dl dr nh hc ny hcy m1 c1 m2 c2:Nat)(b1 b2:Bool):Prop where
 b12:Blk W9 g12 59 [zL Al pl.kp.length cl,.bool pl.kr,zL Ar pr.kp.length cr,.bool pr.kr,zL H nh hc]
 b14:Blk W9 g14 59 [zL Bl ql.kp.length dl,.bool ql.kr,zL Br qr.kp.length dr,.bool qr.kr,zL Hy ny hcy]
 r0:W9.cell? ⟨g,k * 3,none⟩=some (.slice Ar pr.kp.length cr)
 r1:W9.cell? ⟨g,k * 3+1,none⟩=some (.bool pr.kr)
 r2:W9.cell? ⟨g,k * 3+2,none⟩=some (.slice A1 m1 c1)
 t0:W9.cell? ⟨g,j * 3,none⟩=some (.slice Br qr.kp.length dr)
 t1:W9.cell? ⟨g,j * 3+1,none⟩=some (.bool qr.kr)
 t2:W9.cell? ⟨g,j * 3+2,none⟩=some (.slice A2 m2 c2)
 cl:∀ X,zB W9 X->Calls prog 48 #[.agg #[zL Al pl.kp.length cl,.bool pl.kr,zL H nh hc],.agg #[zL Bl ql.kp.length dl,.bool ql.kr,zL Hy ny hcy]] X fun e w'=>e=.returned (.bool b1)/\zB X w'
 cr:∀ X,zB W9 X->Calls prog 48 #[.agg #[zL Ar pr.kp.length cr,.bool pr.kr,zL A1 m1 c1],.agg #[zL Br qr.kp.length dr,.bool qr.kr,zL A2 m2 c2]] X fun e w'=>e=.returned (.bool b2)/\zB X w'
 hk:(k:Int)<(n:Int)
 hj:(j:Int)<(n:Int)
theorem mcR24W (ops:Array Oper)(hops:Tryz.f24.body.bind (z0w 24)=some ops)(Q:Exit->Act->zW->Prop)(W9:zW)(g g12 g14 n k j:Nat)(pl pr ql qr:Pat)(Al Ar Bl Br H Hy A1 A2:zP)(cl cr dl dr nh hc ny hcy m1 c1 m2 c2:Nat)(b1 b2:Bool)
  (h:R24W W9 g g12 g14 n k j pl pr ql qr Al Ar Bl Br H Hy A1 A2 cl cr dl dr nh hc ny hcy m1 c1 m2 c2 b1 b2)
  (hQ:∀(fG fH fI fJ fK fL fM fN fO fP fQ fR fS fT fU:zV) (w':zW),zB W9 w'->Q .normal ⟨#[u0,u1,u2,u3,u4,u5,zL (some ⟨g,0,none⟩) n n,u7,u8,u9,gF,zI k,.pointer (some ⟨g12,0,none⟩),zI j,.pointer (some ⟨g14,0,none⟩),gK,gL,gM,gN,gO,gP,gQ,gR,gT,gV,gW,gX,gY,gZ,i6,i7,i8,ia,ib,ic,ie,ig,ii,ij,ik,il,im,io,ip,iq,ir,iu,iv,iw,iy,iz,iA,iB,iC,iD,iE,iF,iG,iH,iI,iJ,iK,iL,iM,iN,iO,iP,iQ,iR,fG,fH,fI,fJ,fK,fL,fM,fN,fO,fP,fQ,fR,fS,fT,fU,.bool (b1 || b2),jg,jh,ji],[]⟩ w'):
  (Code.region 24 ops true).wp prog Q ⟨#[u0,u1,u2,u3,u4,u5,zL (some ⟨g,0,none⟩) n n,u7,u8,u9,gF,zI k,.pointer (some ⟨g12,0,none⟩),zI j,.pointer (some ⟨g14,0,none⟩),gK,gL,gM,gN,gO,gP,gQ,gR,gT,gV,gW,gX,gY,gZ,i6,i7,i8,ia,ib,ic,ie,ig,ii,ij,ik,il,im,io,ip,iq,ir,iu,iv,iw,iy,iz,iA,iB,iC,iD,iE,iF,iG,iH,iI,iJ,iK,iL,iM,iN,iO,iP,iQ,iR,iS,iT,iU,iV,iW,iX,iY,iZ,j0,j1,j2,j9,jb,jd,je,jf,jg,jh,ji],[]⟩ W9:=by
 simp only[Tryz.f24,Zp,z0w] at hops
 simp at hops
 subst hops;have hzi:=h.hk;have hzj:=h.hj;have cX:∀ d os,Calls prog 49 #[.agg #[zL Al pl.kp.length cl,.bool pl.kr,zL Ar pr.kp.length cr,.bool pr.kr,zL H nh hc]] (grow (redrawn W9 d) os) fun e w''=>e=.returned (.agg #[zL Al pl.kp.length cl,.bool pl.kr,zL H nh hc])/\∃ p:Regrown,w''=grow (redrawn W9 p.d) p.os:=fun d os=>Calls.regrown_of (by have hh:=zdn Al H pl.kp.length cl nh hc pl.kr pr.kr (zL Ar pr.kp.length cr) (grow (redrawn W9 d) os);exact hh)
 have cY:∀ d os,Calls prog 49 #[.agg #[zL Bl ql.kp.length dl,.bool ql.kr,zL Br qr.kp.length dr,.bool qr.kr,zL Hy ny hcy]] (grow (redrawn W9 d) os) fun e w''=>e=.returned (.agg #[zL Bl ql.kp.length dl,.bool ql.kr,zL Hy ny hcy])/\∃ p:Regrown,w''=grow (redrawn W9 p.d) p.os:=fun d os=>Calls.regrown_of (by have hh:=zdn Bl Hy ql.kp.length dl ny hcy ql.kr qr.kr (zL Br qr.kp.length dr) (grow (redrawn W9 d) os);exact hh)
 have cL:∀ d os,Calls prog 48 #[.agg #[zL Al pl.kp.length cl,.bool pl.kr,zL H nh hc],.agg #[zL Bl ql.kp.length dl,.bool ql.kr,zL Hy ny hcy]] (grow (redrawn W9 d) os) fun e w''=>e=.returned (.bool b1)/\∃ p:Regrown,w''=grow (redrawn W9 p.d) p.os:=fun d os=>Calls.regrown_of (h.cl _ (below_regrown W9 d os));have cR:∀ d os,Calls prog 48 #[.agg #[zL Ar pr.kp.length cr,.bool pr.kr,zL A1 m1 c1],.agg #[zL Br qr.kp.length dr,.bool qr.kr,zL A2 m2 c2]] (grow (redrawn W9 d) os) fun e w''=>e=.returned (.bool b2)/\∃ p:Regrown,w''=grow (redrawn W9 p.d) p.os:=fun d os=>Calls.regrown_of (h.cr _ (below_regrown W9 d os));have x0:=cell_regrown (show W9.cell? ⟨g12,0,none⟩=some (.slice Al pl.kp.length cl) from h.b12.cell 0);have x1:=cell_regrown (show W9.cell? ⟨g12,1,none⟩=some (.bool pl.kr) from h.b12.cell 1);have x2:=cell_regrown (show W9.cell? ⟨g12,2,none⟩=some (.slice Ar pr.kp.length cr) from h.b12.cell 2);have x3:=cell_regrown (show W9.cell? ⟨g12,3,none⟩=some (.bool pr.kr) from h.b12.cell 3);have x4:=cell_regrown (show W9.cell? ⟨g12,4,none⟩=some (.slice H nh hc) from h.b12.cell 4);have y0:=cell_regrown (show W9.cell? ⟨g14,0,none⟩=some (.slice Bl ql.kp.length dl) from h.b14.cell 0);have y1:=cell_regrown (show W9.cell? ⟨g14,1,none⟩=some (.bool ql.kr) from h.b14.cell 1);have y2:=cell_regrown (show W9.cell? ⟨g14,2,none⟩=some (.slice Br qr.kp.length dr) from h.b14.cell 2);have y3:=cell_regrown (show W9.cell? ⟨g14,3,none⟩=some (.bool qr.kr) from h.b14.cell 3);have y4:=cell_regrown (show W9.cell? ⟨g14,4,none⟩=some (.slice Hy ny hcy) from h.b14.cell 4);have u0':=cell_regrown h.r0;have u1':=cell_regrown h.r1;have u2':=cell_regrown h.r2;have v0':=cell_regrown h.t0;have v1':=cell_regrown h.t1;have v2':=cell_regrown h.t2;have HQ:=hd_ hQ;clear h hQ;cases b1
 all_goals
  refine wp_region_quiet_below (by kernel_rfl) (by kernel_rfl) ?_
  iterate 2 (first | go_big_quiet_step (exact cX _ _) | quiet_step (exact cX _ _))
  iterate 2 (first | go_big_quiet_step (exact cY _ _) | quiet_step (exact cY _ _))
  iterate 2 (first | go_big_quiet_step (exact cL _ _) | quiet_step (exact cL _ _))
  repeat (first | go_big_quiet_step (exact cR _ _) | quiet_step (exact cR _ _))
  refine wpQuiet_nil ?_;intro _ hw9;obtain⟨⟨dq,osq⟩,hw9⟩:=hw9;subst hw9;exact HQ _ _ _ _ _ _ _ _ _ _ _ _ _ _ _ _ (below_regrown W9 dq osq)
end
noncomputable def zmp (b1:Pat)(h1:List Pat)(b2:Pat)(h2:List Pat):Bool:=@decide (zmh b1 h1 b2 h2) (Classical.propDecidable _)
theorem zmq {b1:Pat}{h1:List Pat}{b2:Pat}{h2:List Pat}:zmp b1 h1 b2 h2=true↔zmh b1 h1 b2 h2:=by unfold zmp;exact @decide_eq_true_iff _ (Classical.propDecidable _)
theorem ComW.val {w w':zW}{p q:Pat}{hs ks:List Pat}{e:Ending}(h:ComW w p hs q ks e w'):e=.returned (.bool (zmp p hs q ks))/\zB w w':=by
 obtain⟨r,rfl,hr,hb⟩:=h;have:r=zmp p hs q ks:=by rw[ZY,hr,zmq]
 rw[this];exact⟨rfl,hb⟩
def zdk.p (x:zdk):EnP:=⟨x.l.1,x.r.1,x.hs.map (·.1)⟩
def zmr (x:zdk):Prop:=∀ q∈x.hs,∀ m,zc6 x.l.1 q.1=some m->∀ z∈(zif x.l.1 x.r.1 m).kp,z.size<=30000000
theorem zms {b:Pat}{hs:List PatM}:zdf b hs=0↔z8w b=0/\(∀ q∈hs,z8w q.1=0)/\hs.length<=64:=by
 unfold zdf;by_cases h1:z8w b=0
 ·rw[if_neg (by rw[h1];simp)]
  by_cases h2:(hs.all fun q=>decide (z8w q.1=0))=false
  ·rw[if_pos h2];refine⟨fun h=>(by cases h),fun ⟨_,h,_⟩=>?_⟩
   rw[ZB.2 (fun q hq=>decide_eq_true (h q hq))] at h2;cases h2
  ·rw[if_neg h2];have h3:∀ q∈hs,z8w q.1=0:=fun q hq=>by
    rw[Bool.not_eq_false] at h2;exact of_decide_eq_true (ZB.1 h2 q hq)
   by_cases h4:64<hs.length
   ·rw[if_pos h4];exact⟨fun h=>(by cases h),fun ⟨_,_,h⟩=>(by omega)⟩
   ·rw[if_neg h4];exact⟨fun _=>⟨h1,h3,by omega⟩,fun _=>rfl⟩
 ·rw[if_pos h1];exact⟨fun h=>(by cases h),fun ⟨h,_⟩=>absurd h h1⟩
theorem zmt (x:zdk):okE x.p↔(decide (zbw x.l.1 x.r.1=0) && decide (zdf x.l.1 x.hs=0))=true:=by
 unfold okE zdk.p;simp only[Zw,decide_eq_true_eq,zms]
 constructor
 ·rintro⟨h1,h2,h3⟩;exact⟨h1,(zlh h1).1,fun q hq=>h2 _ (ZJ hq),by simpa using h3⟩
 ·rintro⟨h1,-,h2,h3⟩;refine⟨h1,fun h hh=>?_,by simpa using h3⟩
  obtain⟨q,hq,rfl⟩:=ZD.1 hh;exact h2 q hq
theorem zls.mono {B B':Nat}{v:zV}{gs:List PatM}(h:zls B v gs)(hb:B'<=B):zls B' v gs:=⟨fun x hx=>Zf hb (h.1 x hx),fun q hq x hx=>Zf hb (h.2 q hq x hx)⟩
def RgAt (W:zW)(g:Nat)(es:List zdk)(cs:List zV)(j:Nat)(hj:j<es.length):Prop:=∃(A:zP) (c:Nat) (gs:List PatM),cs[j * 3]? = some es[j].r.v/\cs[j * 3+1]? = some (.bool es[j].r.1.kr)/\cs[j * 3+2]? = some (.slice A gs.length c)/\gs.map (·.1)=zlr es[j].l.1 es[j].r.1 (es[j].hs.map (·.1))/\HolesIn W (zL A gs.length c) gs/\zls (g+1) (zL A gs.length c) gs
def RgW (wr:zW)(g:Nat)(es:List zdk)(i:Nat):Prop:=∃ cs:List zV,Blk wr g 66 cs/\cs.length=es.length * 3/\∀(j:Nat) (hj:j<es.length),j<i->RgAt wr g es cs j hj
theorem RgW.ku {w w':zW}{g:Nat}{es:List zdk}{i:Nat}(h:RgW w g es i)(hb:zB w w'):RgW w' g es i:=by
 obtain⟨cs,h1,h2,h3⟩:=h;refine⟨cs,h1.kw hb h1.lt,h2,fun j hj hji=>?_⟩;obtain⟨A,c,gs,a1,a2,a3,a4,a5,a6⟩:=h3 j hj hji;exact⟨A,c,gs,a1,a2,a3,a4,a5.kw hb,a6⟩
theorem RgW.put {w:zW}{g:Nat}{es:List zdk}{i:Nat}(h:RgW w g es i)(hi:i<es.length)(A:zP)(c:Nat)(gs:List PatM)(hg:gs.map (·.1)=zlr es[i].l.1 es[i].r.1 (es[i].hs.map (·.1)))(hh:HolesIn w (zL A gs.length c) gs)(hf:zls (g+1) (zL A gs.length c) gs):
  RgW (((w.setCell ⟨g,i * 3,none⟩ es[i].r.v).setCell ⟨g,i * 3+1,none⟩ (.bool es[i].r.1.kr)).setCell ⟨g,i * 3+2,none⟩ (zL A gs.length c)) g es (i+1):=by
 obtain⟨cs,h1,h2,h3⟩:=h;have hset:∀(v:zV) (gs:List PatM),HolesIn w v gs->zls (g+1) v gs->HolesIn (((w.setCell ⟨g,i * 3,none⟩ es[i].r.v).setCell ⟨g,i * 3+1,none⟩ (.bool es[i].r.1.kr)).setCell ⟨g,i * 3+2,none⟩ (zL A gs.length c)) v gs:=fun v gs a b=>((a.set_far b (ZT g) _ _).set_far b (ZT g) _ _).set_far b (ZT g) _ _;refine⟨_,((h1.set_ (i * 3) _).set_ (i * 3+1) _).set_ (i * 3+2) _,by simp [h2],fun j hj hji=>?_⟩
 by_cases e:j=i
 ·subst e;refine⟨A,c,gs,?_,?_,?_,hg,((hh.set_far hf (ZT g) _ _).set_far hf (ZT g) _ _).set_far hf (ZT g) _ _,hf⟩
  ·rw[Zx (by omega),Zx (by omega),Yb (by omega)]
  ·rw[Zx (by omega),Yb (by simp;omega)]
  ·rw[Yb (by simp;omega)]
 ·obtain⟨A',c',gs',e1,e2,e3,e4,e5,e6⟩:=h3 j hj (by omega)
  refine⟨A',c',gs',?_,?_,?_,e4,((e5.set_far e6 (ZT g) _ _).set_far e6 (ZT g) _ _).set_far e6 (ZT g) _ _,e6⟩
  ·rw[Zx (by omega),Zx (by omega),Zx (by omega)];exact e1
  ·rw[Zx (by omega),Zx (by omega),Zx (by omega)];exact e2
  ·rw[Zx (by omega),Zx (by omega),Zx (by omega)];exact e3
theorem RgW.facts {w:zW}{g:Nat}{es:List zdk}{i:Nat}(h:RgW w g es i){j:Nat}(hj:j<es.length):
  ((∃ u,w.cell? ⟨g,j * 3,none⟩=some u)/\(∃ u,w.cell? ⟨g,j * 3+1,none⟩=some u)/\∃ u,w.cell? ⟨g,j * 3+2,none⟩=some u)/\w.frozen? ⟨g,j * 3,none⟩=false/\w.frozen? ⟨g,j * 3+1,none⟩=false/\w.frozen? ⟨g,j * 3+2,none⟩=false:=by
 obtain⟨cs,h1,h2,h3⟩:=h;refine⟨⟨?_,?_,?_⟩,h1.frozen _,h1.frozen _,h1.frozen _⟩
 ·exact⟨cs[j * 3]'(by omega),by rw[h1.cell,Ze]⟩
 ·exact⟨cs[j * 3+1]'(by omega),by rw[h1.cell,Ze]⟩
 ·exact⟨cs[j * 3+2]'(by omega),by rw[h1.cell,Ze]⟩
theorem RgW.at_ {w:zW}{g:Nat}{es:List zdk}{i:Nat}(h:RgW w g es i){j:Nat}(hj:j<es.length)(hi:j<i):
  ∃(A:zP) (c:Nat) (gs:List PatM),w.cell? ⟨g,j * 3,none⟩=some es[j].r.v/\w.cell? ⟨g,j * 3+1,none⟩=some (.bool es[j].r.1.kr)/\w.cell? ⟨g,j * 3+2,none⟩=some (.slice A gs.length c)/\gs.map (·.1)=zlr es[j].l.1 es[j].r.1 (es[j].hs.map (·.1))/\HolesIn w (zL A gs.length c) gs:=by
 obtain⟨cs,h1,h2,h3⟩:=h;obtain⟨A,c,gs,e1,e2,e3,e4,e5,-⟩:=h3 j hj hi;exact⟨A,c,gs,by rw[h1.cell,e1],by rw[h1.cell,e2],by rw[h1.cell,e3],e4,e5⟩
theorem zmu (l r:Pat)(hs:List Pat):(zlr l r hs).length<=hs.length:=List.length_filterMap_le _ _
theorem zmv {x:zdk}(ho:okE x.p):(∀ q∈x.hs,q.1.kp.length<=12)/\x.hs.length<=400/\(∀ q∈x.hs,z8w q.1=0)/\zbw x.l.1 x.r.1=0:=by
 have h:=((zmt x).1 ho);simp only[Zw,decide_eq_true_eq,zms] at h
 exact⟨fun q hq=>zcc (h.2.2.1 q hq),by have:=h.2.2.2;omega,h.2.2.1,h.1⟩
theorem zmw {x:zdk}{gs:List PatM}(ho:okE x.p)(hl:¬ zmg x.p)(hg:gs.map (·.1)=zlr x.l.1 x.r.1 (x.hs.map (·.1))):(∀ q∈gs,q.1.kp.length<=12)/\gs.length<=400:=by
 obtain⟨h1,h2,h3,h4⟩:=zmv ho;refine⟨fun q hq=>?_,?_⟩
 ·have hm:q.1∈zlr x.l.1 x.r.1 (x.hs.map (·.1)):=by rw[<- hg];exact ZJ hq
  exact zcc (zml h4 (fun h hh hc=>hl ⟨h,hh,hc⟩) q.1 hm).1
 ·have h5:=congrArg List.length hg;have h6:=zmu x.l.1 x.r.1 (x.hs.map (·.1));rw[Zk] at h5 h6;omega
def ChkW (w:zW)(es:List zdk)(e:Ending)(w':zW):Prop:=∃ i err:Int,e=.returned (.tuple #[zI i,zI err])/\zmj (es.map zdk.p) err/\zB w w'
theorem zmx {es:List zdk}:∀ x∈es.map zdk.p,∃(k:Nat) (hk:k<es.length),x=es[k].p:=fun x hx=>by
 obtain⟨y,hy,rfl⟩:=ZD.1 hx;obtain⟨k,hk,rfl⟩:=ZF hy;exact⟨k,hk,rfl⟩
theorem zmy (es:List zdk)(v:zV)(w:zW)(hE:zdo w v es)(hl32:es.length<=32)(hS:∀ x∈es,zmr x):
  Calls prog 24 #[v] w (ChkW w es):=by
 obtain⟨A,c,rfl,-⟩:=id hE.1;have HE:=hd_ hE;have HS:=hd_ hS;clear hE hS;go_enter func24,ntmps24;go_wp2_with fail;go_loopw [17] (fun i wr=>∃ k:Nat,i=zI k/\k<=es.length/\Hid (zB w wr/\∀ j (hj:j<es.length),j<k->okE es[j].p)) (fun i _=>es.length - (intOf i).toNat)
 exact⟨0,rfl,Zg _,hd_ ⟨Zb _ _,fun j _ h=>by omega⟩⟩
 obtain⟨k,rfl,hk,HI⟩:=hrel;by_cases hlt:k<es.length
 ·have HEX:=hd_ (HE.kw HI.1);obtain⟨ad,rfl,hab,s0,s1,s2,s3,s4⟩:=HEX.out.at_ hlt;have HXI:=hd_ (HEX.2 es[k] (Za hlt));have HXO:=hd_ (zmt es[k]);have HNO:Hid (¬ okE es[k].p->zmj (es.map zdk.p) 70):=hd_ (fun h=>.inl ⟨rfl,_,ZJ (Za hlt),h⟩);have HYE:Hid (okE es[k].p->∀ j (hj:j<es.length),j<k+1->okE es[j].p):=hd_ (fun h j hj hjk=>by
   by_cases e:j=k
   ·subst e;exact h
   ·exact HI.2 j hj (by omega))
  generalize es[k]=x at s0 s1 s2 s3 s4 HXI HXO HNO HYE;obtain⟨H,hc,hhv⟩:=HXI.out.holes;obtain⟨⟨pl,Al,cl⟩,⟨pr,Ar,cr⟩,hv,hs⟩:=x;change hv=zL H hs.length hc at hhv;subst hhv;change wr.cell? _=some (.slice Al pl.kp.length cl) at s0;change wr.cell? _=some (.bool pl.kr) at s1;change wr.cell? _=some (.slice Ar pr.kp.length cr) at s2;change wr.cell? _=some (.bool pr.kr) at s3;change wr.cell? _=some (.slice H hs.length hc) at s4;have hX:zB wr (wr.alloc (zC #[zL Al pl.kp.length cl,.bool pl.kr,zL Ar pr.kp.length cr,.bool pr.kr,zL H hs.length hc] 59)):=zR;have hXI:=HXI.out.kw hX;have HC:=hd_ (zh4 pl pr hs Al Ar H cl cr hc (wr.alloc (zC #[zL Al pl.kp.length cl,.bool pl.kr,zL Ar pr.kp.length cr,.bool pr.kr,zL H hs.length hc] 59)) hXI.l hXI.r hXI.h (by have:=hXI.n;exact Zf this (by decide)))
  have HX:=hd_ (z0r HI.1 hX);have HLT:=hd_ hlt;clear hab hX hXI;obtain⟨o,ho⟩:∃ o,(decide (zbw pl pr=0) && decide (zdf pl hs=0))=o:=⟨_,rfl⟩;have HXO2:Hid (okE (zdk.p ⟨(pl,Al,cl),(pr,Ar,cr),zL H hs.length hc,hs⟩)↔o=true):=hd_ (by rw[<- ho];exact HXO)
  rw[ho] at HC;clear ho HXO;cases o with
  | false =>
   have HR:=hd_ (HNO (fun h=>by have:=HXO2.out.1 h;cases this))
   go_wp2_with fail;refine HC.mono ?_;rintro e w4 ⟨rfl,hb⟩;have HB4:=hd_ (z0r HX hb);clear hb s0 s1 s2 s3 s4;go_wp2_with fail;go_ret2;exact⟨_,_,rfl,HR,HB4⟩
  | true =>
   have HY:=hd_ (HYE (HXO2.2 rfl));go_wp2_with fail;refine HC.mono ?_;rintro e w4 ⟨rfl,hb⟩;have HB4:=hd_ (z0r HX hb);clear hb s0 s1 s2 s3 s4;go_wp2_with fail;go_roundw
   exact⟨k+1,by go_num,by omega,hd_ ⟨HB4,HY⟩⟩
   simp [intOf];omega
 ·have hke:k=es.length:=by omega
  subst hke;have q32:decide ((32:Int)<(es.length:Int))=false:=by simp;omega
  have q32':decide (32<es.length)=false:=by simp;omega
  have hmk:=zuu es.length (by omega)
  have hge:¬((es.length:Int)<(es.length:Int)):=by omega
  have HOK:Hid (∀ j (hj:j<es.length),okE es[j].p):=hd_ (fun j hj=>HI.2 j hj hj);have HI:=hd_ HI.1;go_upto_region 10 with fail;have HR0:Hid (RgW (wr.alloc (.cells (mkL [zL none 0 0,.bool false,zL none 0 0] es.length).toArray 66)) wr.heap.size es 0):=hd_ ⟨_,z0l wr _ _,by rw[z0m];rfl,fun j _ h=>by omega⟩
  have HB1:=hd_ (HI.alloc HI.size (.cells (mkL [zL none 0 0,.bool false,zL none 0 0] es.length).toArray 66));have hgw:w.heap.size<=wr.heap.size:=HI.out.size;generalize wr.alloc (.cells (mkL [zL none 0 0,.bool false,zL none 0 0] es.length).toArray 66)=W2 at HR0 HB1 |-;generalize wr.heap.size=g at HR0 hgw |-;clear hmk HI hk hlt;have HGW:=hd_ hgw;clear hgw;go_wp2_with fail;go_loopw [35] (fun i wr=>∃ k:Nat,i=zI k/\k<=es.length/\Hid (zB w wr/\RgW wr g es k/\∀ j (hj:j<es.length),j<k->¬ zmg es[j].p)) (fun i _=>es.length - (intOf i).toNat)
  exact⟨0,rfl,Zg _,hd_ ⟨HB1,HR0,fun j _ h=>by omega⟩⟩
  obtain⟨k,rfl,hk,HI⟩:=hrel;by_cases hlt:k<es.length
  ·have HEX:=hd_ (HE.kw HI.1);obtain⟨ad,rfl,hab,s0,s1,s2,s3,s4⟩:=HEX.out.at_ hlt;have HXI:=hd_ (HEX.2 es[k] (Za hlt));have HXO:=hd_ (zmv (HOK k hlt));have HSZ:=hd_ (HS es[k] (Za hlt));have HNO:Hid (zmg es[k].p->zmj (es.map zdk.p) 72):=hd_ (fun h=>.inr (.inl ⟨rfl,fun x hx=>(by obtain⟨j,hj,rfl⟩:=zmx x hx;exact HOK j hj),.inr ⟨_,ZJ (Za hlt),h⟩⟩))
   have HYE:Hid (¬ zmg es[k].p->∀ j (hj:j<es.length),j<k+1->¬ zmg es[j].p):=hd_ (fun h j hj hjk=>by
    by_cases e:j=k
    ·subst e;exact h
    ·exact HI.2.2 j hj (by omega))
   have HPUT:=hd_ (fun X (hX:RgW X g es k) A c gs h1 h2 h3=>hX.put hlt A c gs h1 h2 h3);have HFA:=hd_ (fun X (hX:RgW X g es k)=>hX.facts hlt);have HGG:Hid (g<wr.heap.size):=hd_ (by obtain⟨cs,h1,-⟩:=HI.out.2.1;exact h1.lt)
   generalize es[k]=x at s0 s1 s2 s3 s4 HXI HXO HPUT HSZ HNO HYE;obtain⟨H,hc,hhv⟩:=HXI.out.holes;obtain⟨⟨pl,Al,cl⟩,⟨pr,Ar,cr⟩,hv,hs⟩:=x;change hv=zL H hs.length hc at hhv;subst hhv;change wr.cell? _=some (.slice Al pl.kp.length cl) at s0;change wr.cell? _=some (.bool pl.kr) at s1;change wr.cell? _=some (.slice Ar pr.kp.length cr) at s2;change wr.cell? _=some (.bool pr.kr) at s3;change wr.cell? _=some (.slice H hs.length hc) at s4;have hX:zB wr (wr.alloc (zC #[zL Al pl.kp.length cl,.bool pl.kr,zL Ar pr.kp.length cr,.bool pr.kr,zL H hs.length hc] 59)):=zR;have hXI:=HXI.out.kw hX;have HC:=hd_ (rightW pl pr hs Al Ar H cl cr hc (wr.alloc (zC #[zL Al pl.kp.length cl,.bool pl.kr,zL Ar pr.kp.length cr,.bool pr.kr,zL H hs.length hc] 59)) hXI.l hXI.r hXI.h (Zf HXO.2.1 (by decide)) HXO.2.2.2 HXO.2.2.1 HSZ)
   have HX:=hd_ hX;have HLT:=hd_ hlt;clear hab hX hXI;go_wp2_with fail;refine HC.mono ?_;rintro e w4 ⟨hb,⟨⟨q9,hq9,hl9⟩,rfl⟩ | ⟨hnl,A9,c9,gs,rfl,hgs,hhg,hfg⟩⟩
   ·have HR:=hd_ (HNO ⟨q9.1,ZJ hq9,hl9⟩);have hb4:=z0r HX.out hb;have HBW:=hd_ (z0r HI.1 (hb4.alloc hb4.size (zC #[zL none 0 0,.bool false,zL none 0 0] 66)));clear hb hb4 s0 s1 s2 s3 s4;go_wp2_with fail;go_ret2;exact⟨_,_,rfl,HR,HBW⟩
   have HY:=hd_ (HYE (fun ⟨h,hh,hc⟩=>by obtain⟨q,hq,rfl⟩:=ZD.1 hh;exact hnl q hq hc))
   have hb4:=z0r HX.out hb;have hb5:zB wr (w4.alloc (zC #[zL Ar pr.kp.length cr,.bool pr.kr,zL A9 gs.length c9] 66)):=hb4.alloc hb4.size _;have HRG:=hd_ (HI.2.1.ku hb5);have HBW:=hd_ (z0r HI.1 hb5);have HHG:=hd_ (hhg.kw ((Zb w4.heap.size w4).alloc (Zd _) (zC #[zL Ar pr.kp.length cr,.bool pr.kr,zL A9 gs.length c9] 66)));have HFG:Hid (zls (g+1) (zL A9 gs.length c9) gs):=hd_ (hfg.mono (by have:=HGG.out;simp;omega))
   have HGS:=hd_ hgs;have HN:Hid (Blk (w4.alloc (zC #[zL Ar pr.kp.length cr,.bool pr.kr,zL A9 gs.length c9] 66)) w4.heap.size 66 [zL Ar pr.kp.length cr,.bool pr.kr,zL A9 gs.length c9]):=hd_ (z0l w4 _ _);clear hb hb4 hb5 s0 s1 s2 s3 s4 hhg hfg hgs hnl;go_upto_region 14 with fail;generalize w4.alloc (zC #[zL Ar pr.kp.length cr,.bool pr.kr,zL A9 gs.length c9] 66)=W5 at HRG HBW HN HHG |-;generalize w4.heap.size=g9 at HN |-;obtain⟨z0,z1,z2⟩:=(⟨HN.out.cell 0,HN.out.cell 1,HN.out.cell 2⟩:W5.cell? ⟨g9,0,none⟩=some (.slice Ar pr.kp.length cr)/\W5.cell? ⟨g9,1,none⟩=some (.bool pr.kr)/\W5.cell? ⟨g9,2,none⟩=some (.slice A9 gs.length c9));obtain⟨⟨⟨u0,d0⟩,⟨u1,d1⟩,⟨u2,d2⟩⟩,f0,f1,f2⟩:=HFA.out W5 HRG.out;have hzl:(k:Int)<(es.length:Int):=by omega
   go_wp2_with fail;go_roundw
   exact⟨k+1,by go_num,by omega,hd_ ⟨((HBW.setCell (p:=⟨g,k * 3,none⟩) HGW _).setCell (p:=⟨g,k * 3+1,none⟩) HGW _).setCell (p:=⟨g,k * 3+2,none⟩) HGW _,HPUT W5 HRG A9 c9 gs HGS HHG HFG,HY⟩⟩
   simp [intOf];omega
  ·have hke:k=es.length:=by omega
   subst hke;have HB3:=hd_ HI.1;have HR3:=hd_ HI.2.1;have HNL:Hid (∀ j (hj:j<es.length),¬ zmg es[j].p):=hd_ (fun j hj=>HI.2.2 j hj hj);have hge:¬((es.length:Int)<(es.length:Int)):=by omega
   clear HI;have hcc:es.length<=c:=by obtain⟨A',c',e,h1,-⟩:=id HE.out.1;injection e with e1 e2 e3;omega
   go_wp2_with fail;go_loopw [55] (fun i wr=>∃ k:Nat,i=zI k/\k<=es.length/\Hid (zB w wr/\RgW wr g es es.length/\∀(i j:Nat) (hi:i<es.length) (hj:j<i),i<k->¬ zmi es[i].p (es[j]'(ZZ hj hi)).p)) (fun i _=>es.length - (intOf i).toNat)
   exact⟨0,rfl,Zg _,hd_ ⟨HB3,HR3,fun i j _ _ h=>by omega⟩⟩
   obtain⟨k,rfl,hk,HI⟩:=hrel;by_cases hlt:k<es.length
   ·have HEX:=hd_ (HE.kw HI.1);obtain⟨ad,rfl,hab,s0,s1,s2,s3,s4⟩:=HEX.out.at_ hlt;have HXI:=hd_ (HEX.2 es[k] (Za hlt));have HRX:=hd_ (fun X (hX:RgW X g es es.length)=>hX.at_ hlt hlt);have HMT:Hid (∀(j:Nat) (hj:j<k),zmi es[k].p (es[j]'(ZZ hj hlt)).p->zmj (es.map zdk.p) 71):=hd_ (fun j hj h=>.inr (.inr (.inl ⟨rfl,fun x hx=>(by obtain⟨j,hj,rfl⟩:=zmx x hx;exact HOK j hj),by simpa using hl32,fun x hx=>(by obtain⟨j,hj,rfl⟩:=zmx x hx;exact HNL j hj),k,j,by simpa using hlt,hj,by simpa using h⟩)))
    have HNX:Hid ((∀(j:Nat) (hj:j<k),¬ zmi es[k].p (es[j]'(ZZ hj hlt)).p)->∀(i j:Nat) (hi:i<es.length) (hj:j<i),i<k+1->¬ zmi es[i].p (es[j]'(ZZ hj hi)).p):=hd_ (fun h i j hi hj hik=>by
     by_cases e:i=k
     ·subst e;exact h j hj
     ·exact HI.2.2 i j hi hj (by omega))
    have HOX:=hd_ (HOK k hlt);have HNX2:=hd_ (HNL k hlt);generalize es[k]=x at s0 s1 s2 s3 s4 HXI HRX HMT HNX HOX HNX2;obtain⟨H,hc,hhv⟩:=HXI.out.holes;obtain⟨⟨pl,Al,cl⟩,⟨pr,Ar,cr⟩,hv,hs⟩:=x;change hv=zL H hs.length hc at hhv;subst hhv;change wr.cell? _=some (.slice Al pl.kp.length cl) at s0;change wr.cell? _=some (.bool pl.kr) at s1;change wr.cell? _=some (.slice Ar pr.kp.length cr) at s2;change wr.cell? _=some (.bool pr.kr) at s3;change wr.cell? _=some (.slice H hs.length hc) at s4;have hX:zB wr (wr.alloc (zC #[zL Al pl.kp.length cl,.bool pl.kr,zL Ar pr.kp.length cr,.bool pr.kr,zL H hs.length hc] 59)):=zR;have HBX:=hd_ (z0r HI.1 hX);have HGX:=hd_ (HI.2.1.ku hX);have HN:Hid (Blk (wr.alloc (zC #[zL Al pl.kp.length cl,.bool pl.kr,zL Ar pr.kp.length cr,.bool pr.kr,zL H hs.length hc] 59)) wr.heap.size 59 [zL Al pl.kp.length cl,.bool pl.kr,zL Ar pr.kp.length cr,.bool pr.kr,zL H hs.length hc]):=hd_ (z0l wr _ _);have HXP:=hd_ (HXI.kw hX);have hpre:=fun X=>zdr (P:=prog) (t:=23) (n:=es.length) (c:=c) (k:=k) (A:=some ad) underlying23 zds (by omega) X
    have HLT:=hd_ hlt;clear hab hX;go_upto_region 21 with fail;generalize wr.alloc (zC #[zL Al pl.kp.length cl,.bool pl.kr,zL Ar pr.kp.length cr,.bool pr.kr,zL H hs.length hc] 59)=W7 at HBX HGX HN HXP |-;generalize wr.heap.size=g12 at HN |-;clear s0 s1 s2 s3 s4 HI HEX;go_wp2_with fail;go_loopw [64] (fun i wr=>∃ j:Nat,i=zI j/\j<=k/\Hid (zB W7 wr/\∀(j':Nat) (hj:j'<k),j'<j->¬ zmi (zdk.p ⟨(pl,Al,cl),(pr,Ar,cr),zL H hs.length hc,hs⟩) (es[j']'(ZZ hj HLT)).p)) (fun i _=>k - (intOf i).toNat)
    exact⟨0,rfl,Zg _,hd_ ⟨Zb _ _,fun j' _ h=>by omega⟩⟩
    obtain⟨j,rfl,hj,HJ⟩:=hrel;by_cases hlj:j<k
    ·have hje:j<es.length:=by omega
     have HEX:=hd_ (HE.kw (z0r HBX HJ.1));obtain⟨ad2,had,hab,s0,s1,s2,s3,s4⟩:=HEX.out.at_ hje;injection had with had
     subst had;have HYI:=hd_ (HEX.2 es[j] (Za hje));have HRY:=hd_ (fun X (hX:RgW X g es es.length)=>hX.at_ hje hje);have HAJ:=hd_ (HMT j hlj);have HYE:Hid (¬ zmi (zdk.p ⟨(pl,Al,cl),(pr,Ar,cr),zL H hs.length hc,hs⟩) es[j].p->∀(j':Nat) (hj:j'<k),j'<j+1->¬ zmi (zdk.p ⟨(pl,Al,cl),(pr,Ar,cr),zL H hs.length hc,hs⟩) (es[j']'(ZZ hj HLT)).p):=hd_ (fun h j' hj' hjj=>by
      by_cases e:j'=j
      ·subst e;exact h
      ·exact HJ.2 j' hj' (by omega))
     have HOY:=hd_ (HOK j hje);have HNY:=hd_ (HNL j hje);generalize es[j]=y at s0 s1 s2 s3 s4 HYI HRY HAJ HYE HOY HNY;obtain⟨Hy,hcy,hhv⟩:=HYI.out.holes;obtain⟨⟨ql,Bl,dl⟩,⟨qr,Br,dr⟩,hv,hsy⟩:=y;change hv=zL Hy hsy.length hcy at hhv;subst hhv;change wr.cell? _=some (.slice Bl ql.kp.length dl) at s0;change wr.cell? _=some (.bool ql.kr) at s1;change wr.cell? _=some (.slice Br qr.kp.length dr) at s2;change wr.cell? _=some (.bool qr.kr) at s3;change wr.cell? _=some (.slice Hy hsy.length hcy) at s4;have hX:zB wr (wr.alloc (zC #[zL Bl ql.kp.length dl,.bool ql.kr,zL Br qr.kp.length dr,.bool qr.kr,zL Hy hsy.length hcy] 59)):=zR;have hB9:=z0r HJ.out.1 hX;have HB9:=hd_ hB9;have HYP:=hd_ (HYI.kw hX);have hN14:Blk (wr.alloc (zC #[zL Bl ql.kp.length dl,.bool ql.kr,zL Br qr.kp.length dr,.bool qr.kr,zL Hy hsy.length hcy] 59)) wr.heap.size 59 [zL Bl ql.kp.length dl,.bool ql.kr,zL Br qr.kp.length dr,.bool qr.kr,zL Hy hsy.length hcy]:=z0l wr _ _;have hN12:=HN.out.kw hB9 HN.out.lt;have hRG:=HGX.out.ku hB9;have hXP:=HXP.out.kw hB9;have HLJ:=hd_ hlj;have hzi:(k:Int)<(es.length:Int):=by omega
     have hzj:(j:Int)<(es.length:Int):=by omega
     clear hab hX;go_upto_region 24 with fail;clear s0 s1 s2 s3 s4;generalize wr.alloc (zC #[zL Bl ql.kp.length dl,.bool ql.kr,zL Br qr.kp.length dr,.bool qr.kr,zL Hy hsy.length hcy] 59)=W9 at hB9 HB9 HYP hN14 hN12 hRG hXP |-;generalize wr.heap.size=g14 at hN14 |-;obtain⟨A1,c1,g1,r0,r1,r2,r3,r4⟩:=HRX.out W9 hRG;obtain⟨A2,c2,g2,t0,t1,t2,t3,t4⟩:=HRY.out W9 hRG;have HCL:=hd_ (fun X (hX:zB W9 X)=>(zmo pl ql hs hsy Al Bl H Hy cl dl hc hcy X (hXP.l.kw hX) (HYP.l.kw hX) (hXP.h.kw hX) (HYP.h.kw hX) (zmv HOX).1 (zmv HOY).1 (zmv HOX).2.1 (zmv HOY).2.1).mono (fun e w' h=>h.val));have HCR:=hd_ (fun X (hX:zB W9 X)=>(zmo pr qr g1 g2 Ar Br A1 A2 cr dr c1 c2 X (hXP.r.kw hX) (HYP.r.kw hX) (r4.kw hX) (t4.kw hX) (zmw HOX HNX2 r3).1 (zmw HOY HNY t3).1 (zmw HOX HNX2 r3).2 (zmw HOY HNY t3).2).mono (fun e w' h=>h.val));have HB1:Hid (zmp pl (hs.map (·.1)) ql (hsy.map (·.1))=true↔zmh pl (hs.map (·.1)) ql (hsy.map (·.1))):=hd_ zmq;have HB2:Hid (zmp pr (g1.map (·.1)) qr (g2.map (·.1))=true↔zmh pr (zlr pl pr (hs.map (·.1))) qr (zlr ql qr (hsy.map (·.1)))):=hd_ (by rw[r3,t3];exact zmq)
     generalize zmp pl (hs.map (·.1)) ql (hsy.map (·.1))=b1 at HCL HB1;generalize zmp pr (g1.map (·.1)) qr (g2.map (·.1))=b2 at HCR HB2;refine mcR24W _ (by kernel_rfl) _ W9 g g12 g14 es.length k j pl pr ql qr Al Ar Bl Br H Hy A1 A2 cl cr dl dr hs.length hc hsy.length hcy g1.length c1 g2.length c2 b1 b2 ⟨hN12,hN14,r0,r1,r2,t0,t1,t2,HCL,HCR,hzi,hzj⟩ ?_
     intro fG fH fI fJ fK fL fM fN fO fP fQ fR fS fT fU w' hb';have HBN:=hd_ (HB9.trans (hb'.mono HB9.size));clear hb' hB9 hN14 hN12 hRG hXP r0 r1 r2 r3 r4 t0 t1 t2 t3 t4 hzi hzj;obtain⟨bb,hbb⟩:∃ bb,(b1 || b2)=bb:=⟨_,rfl⟩;have HBB:Hid (bb=true↔zmi (zdk.p ⟨(pl,Al,cl),(pr,Ar,cr),zL H hs.length hc,hs⟩) (zdk.p ⟨(ql,Bl,dl),(qr,Br,dr),zL Hy hsy.length hcy,hsy⟩)):=hd_ (by
      rw[<- hbb,Bool.or_eq_true,HB1.out,HB2.out];rfl)
     rw[hbb];clear hbb HCL HCR HB1 HB2;cases bb with
     | true =>
      have HR:=hd_ (HAJ (HBB.1 rfl));have HBE:=hd_ (z0r HBX HBN);go_wp2_with fail;go_ret2;exact⟨_,_,rfl,HR,HBE⟩
     | false =>
      have HY:=hd_ (HYE (fun h=>by have:=HBB.out.2 h;cases this))
      go_wp2_with fail;go_roundw
      exact⟨j+1,by go_num,by omega,hd_ ⟨HBN,HY⟩⟩
      simp [intOf];omega
    ·have hke:j=k:=by omega
     subst hke;have HNE:=hd_ (HNX (fun j' hj'=>HJ.2 j' hj' hj'));have HBE:=hd_ (z0r HBX HJ.1);have HGE:=hd_ (HGX.ku HJ.1);have hge:¬((j:Int)<(j:Int)):=by omega
     clear hpre;go_wp2_with fail;go_roundw
     exact⟨j+1,by go_num,by omega,hd_ ⟨HBE,HGE,HNE⟩⟩
     simp [intOf];omega
   ·have hke:k=es.length:=by omega
    subst hke;have HBE:=hd_ HI.1;have HR:Hid (zmj (es.map zdk.p) 0):=hd_ (.inr (.inr (.inr ⟨rfl,fun x hx=>(by obtain⟨j,hj,rfl⟩:=zmx x hx;exact HOK j hj),by simpa using hl32,fun x hx=>(by obtain⟨j,hj,rfl⟩:=zmx x hx;exact HNL j hj),fun i j hi hj h=>HI.2.2 i j (by simpa using hi) hj (by simpa using hi) (by simpa using h)⟩)))
    have hge:¬((es.length:Int)<(es.length:Int)):=by omega
    go_wp2_with fail;go_ret2;exact⟨_,_,rfl,HR,HBE⟩
structure RuL (x:zdk):Prop where
 rule:zbw x.l.1 x.r.1=0
structure MapL (es:List zdk):Prop where
 len:es.length<=32
 ok:∀ x∈es,RuL x
theorem zmz {es:List zdk}(h:zmj (es.map zdk.p) 0):MapL es:=by
 rcases h with⟨h,-⟩ | ⟨h,-⟩ | ⟨h,-⟩ | ⟨-,ho,hl,-⟩
 ·cases h
 ·cases h
 ·cases h
 ·exact⟨by simpa using hl,fun x hx=>⟨(ho _ (ZJ hx)).1⟩⟩
def Long (D:List Rev)(es:List zdk)(m:Int):Prop:=∃ p∈z8e,∃ h,z8i D (zdy es) m p=some h/\200<h.loc.size
def WanP (D:List Rev)(es:List zdk)(m:Int)(err:Int)(l:List Hav):Prop:=(err≠0/\zmj (es.map zdk.p) err/\l=[])\/(zmj (es.map zdk.p) 0/\err=352/\Long D es m/\l=[])\/(zmj (es.map zdk.p) 0/\err=0/\¬ Long D es m/\l=z8j D (zdy es) m)
theorem zn0 {D:List Rev}{es:List zdk}{m e1 e2:Int}{l1 l2:List Hav}(h1:WanP D es m e1 l1)(h2:WanP D es m e2 l2):e1=e2/\l1=l2:=by
 rcases h1 with⟨a1,a2,a3⟩ | ⟨a1,a2,a3,a4⟩ | ⟨a1,a2,a3,a4⟩ <;> rcases h2 with⟨b1,b2,b3⟩ | ⟨b1,b2,b3,b4⟩ | ⟨b1,b2,b3,b4⟩
 ·exact⟨zmk a2 b2,by rw[a3,b3]⟩
 ·exact absurd (zmk a2 b1) a1
 ·exact absurd (zmk a2 b1) a1
 ·exact absurd (zmk b2 a1) b1
 ·exact⟨by rw[a2,b2],by rw[a4,b4]⟩
 ·exact absurd a3 b3
 ·exact absurd (zmk b2 a1) b1
 ·exact absurd b3 a3
 ·exact⟨by rw[a2,b2],by rw[a4,b4]⟩
def WanW (w:zW)(D:List Rev)(es:List zdk)(m:Int)(e:Ending)(w':zW):Prop:=∃(v:zV) (err:Int) (l:List Hav),e=.returned (.tuple #[v,zI err])/\z5s w' v l/\zB w w'/\WanP D es m err l
theorem zn1 (w:zW):z5s w (zL none 0 0) []:=Row.nil_ w 3
theorem zn2 {D:List Rev}{f:zA->Option zA}{m:Int}{l:List zA}{p:zA}{h:Hav}(hm:∀ q,q∈l↔∃ r∈D,r.kt=q)(he:z8i D f m p=some h):p∈l:=by
 cases hg:z38 D p (fun v:Rev=>decide (v.chg<=m)) with
 | none=>rw[ze4 hg] at he;cases he
 | some r =>
  obtain⟨h1,h2,-⟩:=z8k hg;exact (hm p).2 ⟨r,h1,h2⟩
theorem zn3 (es:List zdk)(v:zV)(p:zA)(w:zW)(he:Env w)(hE:zdo w v es)(hM:MapL es)(hF:zdz es p)(hz:p.size<=1000000):
  Calls prog 27 #[v,zS p] w (zcw w (zdy es p)):=by
 obtain⟨A,c,rfl,-⟩:=id hE.1;have hl32:=hM.len;have hA:zB w (w.alloc (zC #[zS p] 9)):=zR;have hS:=z0l w [zS p] 9;have HE:=hd_ (fun X (hX:zB w X)=>hE.kw hX);have HEV:=hd_ (fun X (hX:zB w X)=>he.kw hX);have HM:=hd_ hM;have HF:=hd_ hF;have HAT:=hd_ (fun k hk=>@ze0 es p k hk);have HNO:=hd_ (@ze1 es p);generalize zdy es p=r at HAT HNO |-;have HA:=hd_ hA;have HS:=hd_ hS;clear hE hM hF he hA hS;go_enter func27,ntmps27;go_upto_region 1 with fail;generalize w.alloc (zC #[zS p] 9)=W1 at HA HS |-;go_wp2_with fail;go_loopw [12] (fun i wr=>∃ k:Nat,i=zI k/\k<=es.length/\Hid (zB W1 wr/\∀ j (hj:j<es.length),j<k->zdx es[j] p=none)) (fun i _=>es.length - (intOf i).toNat)
 exact⟨0,rfl,Zg _,hd_ ⟨Zb _ _,fun j _ h=>by omega⟩⟩
 obtain⟨k,rfl,hk,HI⟩:=hrel;by_cases hlt:k<es.length
 ·have HBW:=hd_ (z0r HA HI.1);have HEX:=hd_ (HE wr HBW);obtain⟨ad,rfl,hab,s0,s1,s2,s3,s4⟩:=HEX.out.at_ hlt;have HXI:=hd_ (HEX.2 es[k] (Za hlt));have HXO:=hd_ (HM.ok es[k] (Za hlt));have HXF:=hd_ (HF es[k] (Za hlt));have HR1:=hd_ (HAT k hlt HI.2);have HJ:Hid (zdx es[k] p=none->∀ j (hj:j<es.length),j<k+1->zdx es[j] p=none):=hd_ (fun h j hj hjk=>by
   by_cases e:j=k
   ·subst e;exact h
   ·exact HI.2 j hj (by omega))
  generalize es[k]=x at s0 s1 s2 s3 s4 HXI HXO HXF HR1 HJ;obtain⟨H,hc,hhv⟩:=HXI.out.holes;obtain⟨⟨pl,Al,cl⟩,⟨pr,Ar,cr⟩,hv,hs⟩:=x;change hv=zL H hs.length hc at hhv;subst hhv;change wr.cell? _=some (.slice Al pl.kp.length cl) at s0;change wr.cell? _=some (.bool pl.kr) at s1;change wr.cell? _=some (.slice Ar pr.kp.length cr) at s2;change wr.cell? _=some (.bool pr.kr) at s3;change wr.cell? _=some (.slice H hs.length hc) at s4;have hX:zB wr (wr.alloc (zC #[zL Al pl.kp.length cl,.bool pl.kr,zL Ar pr.kp.length cr,.bool pr.kr,zL H hs.length hc] 59)):=zR;have HXP:=hd_ (HXI.kw hX);have HX:=hd_ (z0r HI.1 hX);have HN:Hid (Blk (wr.alloc (zC #[zL Al pl.kp.length cl,.bool pl.kr,zL Ar pr.kp.length cr,.bool pr.kr,zL H hs.length hc] 59)) wr.heap.size 59 [zL Al pl.kp.length cl,.bool pl.kr,zL Ar pr.kp.length cr,.bool pr.kr,zL H hs.length hc]):=hd_ (z0l wr _ _);have HLT:=hd_ hlt;clear hab hX;go_upto_region 4 with fail;generalize wr.alloc (zC #[zL Al pl.kp.length cl,.bool pl.kr,zL Ar pr.kp.length cr,.bool pr.kr,zL H hs.length hc] 59)=W4 at HX HN HXP |-;generalize wr.heap.size=g7 at HN |-;clear s0 s1 s2 s3 s4;obtain⟨x0,x1,x2,x3,x4⟩:=(⟨HN.out.cell 0,HN.out.cell 1,HN.out.cell 2,HN.out.cell 3,HN.out.cell 4⟩:W4.cell? ⟨g7,0,none⟩=some (.slice Al pl.kp.length cl)/\W4.cell? ⟨g7,1,none⟩=some (.bool pl.kr)/\W4.cell? ⟨g7,2,none⟩=some (.slice Ar pr.kp.length cr)/\W4.cell? ⟨g7,3,none⟩=some (.bool pr.kr)/\W4.cell? ⟨g7,4,none⟩=some (.slice H hs.length hc));have p0:W4.cell? ⟨w.heap.size,0,none⟩=some (zS p):=(HS.kw HX HS.lt).cell 0;have HRF:=hd_ (zcy false pl pr p Al Ar cl cr W4 (HEV W4 (z0r HA HX)) hz HXP.l HXP.r HXO.rule HXF);have HONE:Hid (zdx ⟨(pl,Al,cl),(pr,Ar,cr),zL H hs.length hc,hs⟩ p=match zcv pl pr p with | none=>none | some s=>if zdu hs p then none else some s):=hd_ rfl
  obtain⟨o,ho⟩:∃ o,zcv pl pr p=o:=⟨_,rfl⟩;rw[ho] at HRF HONE;clear ho;cases o with
  | none =>
   have HNX:=hd_ (HJ HONE);go_wp2_with fail;refine HRF.mono ?_;rintro e w5 ⟨rfl,hb⟩;have HB:=hd_ (z0r HX hb);clear hb x0 x1 x2 x3 x4 p0;go_wp2_with fail;go_roundw
   exact⟨k+1,by go_num,by omega,hd_ ⟨HB,HNX⟩⟩
   simp [intOf];omega
  | some s =>
   have HCH:=hd_ (fun X (hX:zB W4 X)=>zdw hs H hc w.heap.size p X (HEV X (z0r HA (z0r HX hX))) (HXP.h.kw hX) ((HS.kw (z0r HX hX) HS.lt).cell 0) hz HXP.n);go_wp2_with fail;refine HRF.mono ?_;rintro e w5 ⟨rfl,hb⟩;have HB:=hd_ (z0r HX hb);have HC5:=hd_ (HCH w5 hb);have x4':w5.cell? ⟨g7,4,none⟩=some (.slice H hs.length hc):=(HN.kw hb HN.lt).cell 4;clear hb x0 x1 x2 x3 x4 p0 HCH;obtain⟨hb9,hh9⟩:∃ b,zdu hs p=b:=⟨_,rfl⟩;rw[hh9] at HC5 HONE;clear hh9;cases hb9 with
   | true =>
    have HNX:=hd_ (HJ HONE);go_wp2_with fail;refine HC5.mono ?_;rintro e w6 ⟨rfl,hb⟩;have HB6:=hd_ (z0r HB hb);clear hb x4';go_wp2_with fail;go_roundw
    exact⟨k+1,by go_num,by omega,hd_ ⟨HB6,HNX⟩⟩
    simp [intOf];omega
   | false =>
    have HRR:Hid (r=some s):=hd_ (by rw[HR1.out,HONE.out];rfl)
    go_wp2_with fail;refine HC5.mono ?_;rintro e w6 ⟨rfl,hb⟩;have HB6:=hd_ (z0r HB hb);clear hb x4';go_wp2_with fail;go_ret2;exact⟨by rw[HRR.out];rfl,z0r HA HB6⟩
 ·have hke:k=es.length:=by omega
  subst hke;have HR:=hd_ (HNO (fun j hj=>HI.2 j hj hj));have HB:=hd_ (z0r HA HI.1);have hge:¬((es.length:Int)<(es.length:Int)):=by omega
  go_wp2_with fail;go_ret2;exact⟨by rw[HR.out];rfl,HB⟩
theorem zn4 (D:List Rev)(es:List zdk)(m:Int)(dv dr mv:zV)(w:zW)(he:Env w)(hR:z3w w dv D)(hE:zdo w mv es)(hl:D.length<=1000000)(h6:∀ r∈D,r.kt∈z8e)(hl32:es.length<=32)(hS:∀ x∈es,zmr x)(hF:(∀ x∈es,zbw x.l.1 x.r.1=0)->∀ p∈z8e,zdz es p):
  Calls prog 6 #[.agg #[dv,dr],mv,zI m] w (WanW w D es m):=by
 obtain⟨Ar,cr,rfl,-⟩:=id hR;have hBox:=z0l w [zL Ar D.length cr,dr] 27;have hA:zB w (w.alloc (zC #[zL Ar D.length cr,dr] 27)):=zR;have HCK:=hd_ (fun X (hX:zB w X)=>zmy es mv X (hE.kw hX) hl32 hS);have HPA:=hd_ (fun X (hX:zB w X)=>zk5 D z8e (zL Ar D.length cr) dr X (hR.kw hX) hl h6 (by decide) ze3)
 have HAT:=hd_ (fun X (hX:zB w X) p=>at_any D p m (zL Ar D.length cr) dr X (hR.kw hX) hl);have HFW0:=hd_ (fun(hM:MapL es) X (hX:zB w X) p (hp:p∈z8e)=>zn3 es mv p X (he.kw hX) (hE.kw hX) hM (hF (fun x hx=>(hM.ok x hx).rule) p hp) (ze3 p hp).2);have H6:=hd_ h6;have HA:=hd_ hA;have HBX:=hd_ hBox;have HW:Hid (∀ l,z71 (fun q:zA=>q) l->(∀ q,q∈l↔∃ r∈D,r.kt=q)->l.filterMap (z8i D (zdy es) m)=z8j D (zdy es) m):=hd_ (fun l h1 h2=>ze8 h1 h2 h6);clear he hR hE hS h6 hA hBox hF;go_enter func6,ntmps6;go_upto_region 1 with fail;generalize w.alloc (zC #[zL Ar D.length cr,dr] 27)=W1 at HA HBX |-;have HC1:=hd_ (HCK W1 HA);go_wp2_with fail;refine HC1.mono ?_;rintro e w2 ⟨ix,err,rfl,hme,hb⟩;have HB2:=hd_ (z0r HA hb);have HME:=hd_ hme;clear hme;by_cases h0:err=0
 case neg =>
  have q1:(err != 0)=true:=by simpa using h0
  have HE0:=hd_ h0;clear h0 hb;go_wp2_with fail;go_ret2;exact⟨_,_,[],rfl,zn1 _,HB2,.inl ⟨HE0,HME,rfl⟩⟩
 subst h0;have HFW:=hd_ (HFW0 (zmz HME));clear HFW0;have HBX2:=hd_ (HBX.kw hb HBX.lt);have d0:w2.cell? ⟨w.heap.size,0,none⟩=some (.slice Ar D.length cr):=HBX2.cell 0;have d1:w2.cell? ⟨w.heap.size,1,none⟩=some dr:=HBX2.cell 1;have HC2:=hd_ (HPA w2 HB2);clear hb HCK HPA HC1;go_wp2_with fail;refine HC2.mono ?_;rintro e w3 ⟨v3,l,rfl,hb,hS3,hst,hmem⟩;obtain⟨A3,c3,rfl,hcc3,hmm3,-⟩:=id hS3;have HB3:=hd_ (z0r HB2 hb);have HBX3:=hd_ (HBX2.kw hb HBX2.lt);have HL3:=hd_ hS3;have HWL:=hd_ (HW l hst hmem);have HIN:=hd_ (fun p h (he:z8i D (zdy es) m p=some h)=>zn2 hmem he);have HMEM:Hid (∀ k (hk:k<l.length),l[k]∈z8e):=hd_ (fun k hk=>by
  obtain⟨r,hr,e⟩:=(hmem l[k]).1 (Za hk);rw[<- e];exact H6 r hr)
 have hlen6:l.length<=6:=by
  have hn:l.Nodup:=hst.imp fun {a b} h=>z74 h;exact zk0 (B:=z8e) hn fun x hx=>by
   obtain⟨r,hr,e⟩:=(hmem x).1 hx;rw[<- e];exact H6 r hr
 unfold maxLen at hmm3;clear hb hS3 hst hmem d0 d1 HC2 HW;go_wp2_with fail;go_loopw [10,27] (fun lv i wr=>∃(k n:Nat) (A:zP) (c:Nat),lv=zL A n c/\i=zI k/\k<=l.length/\n<=k/\Hid ((∀ j (hj:j<l.length),j<k->∀ h,z8i D (zdy es) m l[j]=some h->h.loc.size<=200)/\n=((l.take k).filterMap (z8i D (zdy es) m)).length/\zB w3 wr/\wr.ownsRow w3.heap.size 84 3 (zL A n c) n (((l.take k).filterMap (z8i D (zdy es) m)).flatMap Hav.cells))) (fun _ i _=>l.length - (intOf i).toNat)
 exact⟨0,0,none,0,rfl,rfl,Zg _,Zd _,hd_ ⟨fun j _ h=>by omega,rfl,Zb _ _,Zv _ _ _ _⟩⟩
 obtain⟨k,n,A,c,rfl,rfl,hk,hnk,HI⟩:=hrel;by_cases hlt:k<l.length
 ·have HBW:=hd_ (z0r HB3 HI.2.2.1);obtain⟨ad,rfl,hab,s0⟩:=z20.at_ (HL3.out.kw HI.out.2.2.1) hlt;have HT:=hd_ (fm_take (z8i D (zdy es) m) l k hlt);have HP6:=hd_ (HMEM k hlt);have HJ:Hid ((∀ h,z8i D (zdy es) m l[k]=some h->h.loc.size<=200)->∀ j (hj:j<l.length),j<k+1->∀ h,z8i D (zdy es) m l[j]=some h->h.loc.size<=200):=hd_ (fun h j hj hjk=>by
   by_cases e:j=k
   ·subst e;exact h
   ·exact HI.1 j hj (by omega))
  have HLG:Hid (∀ h,z8i D (zdy es) m l[k]=some h->¬ h.loc.size<=200->Long D es m):=hd_ (fun h e hh=>⟨l[k],HMEM k hlt,h,e,by omega⟩)
  generalize l[k]=p at s0 HT HP6 HJ HLG;have HA1:=hd_ (HAT wr HBW p);have HWN:=hd_ (@ze4 D (zdy es) m p);have HWG:=hd_ (fun r=>@ze5 D (zdy es) m p r);have HWO:=hd_ (fun r=>@ze6 D (zdy es) m p r);have HWY:=hd_ (fun r s=>@ze7 D (zdy es) m p s r);have HFP:=hd_ (fun X hX=>HFW X hX p HP6);have HBD:=hd_ (HBX3.kw HI.2.2.1 HBX3.lt);have d0:wr.cell? ⟨w.heap.size,0,none⟩=some (.slice Ar D.length cr):=HBD.cell 0;have d1:wr.cell? ⟨w.heap.size,1,none⟩=some dr:=HBD.cell 1;have HLT:=hd_ hlt;clear hab;obtain⟨o,ho⟩:∃ o,z38 D p (fun v:Rev=>decide (v.chg<=m))=o:=⟨_,rfl⟩;rw[ho] at HA1 HWN HWG HWO HWY;generalize z8i D (zdy es) m p=wo at HT HWN HWG HWO HWY HJ HLG;clear ho;cases o with
  | none =>
   have HW0:=hd_ (HWN rfl);generalize hz:zf8 none=r at HA1;clear hz;go_wp2_with fail;refine HA1.mono ?_;rintro e w5 ⟨rfl,hb⟩;have HB5:=hd_ (z0r HI.2.2.1 (hb.alloc hb.size (zC #[zS r.kt,zI r.num,zI r.chg,zI r.act,zI r.ty.base,.bool r.ty.k,.bool r.ty.l,.bool r.ty.x,.int .u64 r.sum,zI r.size,zS r.frm,zI r.fnum] 78)));have HO5:=hd_ (z0n HI.2.2.2 (hb.alloc hb.size (zC #[zS r.kt,zI r.num,zI r.chg,zI r.act,zI r.ty.base,.bool r.ty.k,.bool r.ty.l,.bool r.ty.x,.int .u64 r.sum,zI r.size,zS r.frm,zI r.fnum] 78)));clear hb s0 d0 d1;go_wp2_with fail;go_roundw
   exact⟨k+1,n,A,c,rfl,by go_num,by omega,by omega,hd_ (by rw[HT.out,HW0.out];simp only[Option.toList,ZM];exact⟨HJ (fun h e=>by rw[HW0.out] at e;cases e),HI.out.2.1,HB5.out,HO5.out⟩)⟩
   simp [intOf];omega
  | some r =>
   change Hid (Calls _ _ _ _ fun e w'=>e=.returned (.tuple #[.agg #[zS r.kt,zI r.num,zI r.chg,zI r.act,zI r.ty.base,.bool r.ty.k,.bool r.ty.l,.bool r.ty.x,.int .u64 r.sum,zI r.size,zS r.frm,zI r.fnum],.bool true])/\_) at HA1;have hX:=fun(X:zW)=>z0l X [zS r.kt,zI r.num,zI r.chg,zI r.act,zI r.ty.base,.bool r.ty.k,.bool r.ty.l,.bool r.ty.x,.int .u64 r.sum,zI r.size,zS r.frm,zI r.fnum] 78;by_cases h3:r.act=3\/r.act=5
   ·have HW0:=hd_ (HWG r rfl (by unfold z32;rcases h3 with h | h <;> rw[h] <;> rfl))
    have HSPLIT:Hid (((r.act == 3)=true)\/((r.act == 3)=false/\(r.act == 5)=true)):=hd_ (by
     rcases h3 with h | h
     ·exact .inl (by rw[h];rfl)
     ·exact .inr ⟨by rw[h];rfl,by rw[h];rfl⟩)
    clear h3;go_wp2_with fail;refine HA1.mono ?_;rintro e w5 ⟨rfl,hb⟩;have hb5:=hb.alloc hb.size (zC #[zS r.kt,zI r.num,zI r.chg,zI r.act,zI r.ty.base,.bool r.ty.k,.bool r.ty.l,.bool r.ty.x,.int .u64 r.sum,zI r.size,zS r.frm,zI r.fnum] 78);have HB5:=hd_ (z0r HI.2.2.1 hb5);have HO5:=hd_ (z0n HI.2.2.2 hb5);have e3:(w5.alloc (zC #[zS r.kt,zI r.num,zI r.chg,zI r.act,zI r.ty.base,.bool r.ty.k,.bool r.ty.l,.bool r.ty.x,.int .u64 r.sum,zI r.size,zS r.frm,zI r.fnum] 78)).cell? ⟨w5.heap.size,3,none⟩=some (zI r.act):=(hX w5).cell 3;clear hb hb5 s0 d0 d1 hX;go_upto_region 9 with fail;generalize w5.alloc (zC #[zS r.kt,zI r.num,zI r.chg,zI r.act,zI r.ty.base,.bool r.ty.k,.bool r.ty.l,.bool r.ty.x,.int .u64 r.sum,zI r.size,zS r.frm,zI r.fnum] 78)=W5 at HB5 HO5 e3 |-;rcases HSPLIT.out with q | ⟨q,q'⟩
    all_goals
     go_wp2_with fail;go_roundw
     exact⟨k+1,n,A,c,rfl,by go_num,by omega,by omega,hd_ (by rw[HT.out,HW0.out];simp only[Option.toList,ZM];exact⟨HJ (fun h e=>by rw[HW0.out] at e;cases e),HI.out.2.1,HB5.out,HO5.out⟩)⟩
     simp [intOf];omega
   ·have q3:(r.act == 3)=false:=by rw[beq_eq_false_iff_ne];exact fun h=>h3 (.inl h)
    have q5:(r.act == 5)=false:=by rw[beq_eq_false_iff_ne];exact fun h=>h3 (.inr h)
    have HLV:Hid (z32 r.act=true):=hd_ (by unfold z32;rw[bne,bne,q3,q5];rfl)
    clear h3;go_wp2_with fail;refine HA1.mono ?_;rintro e w5 ⟨rfl,hb⟩;have hb5:=hb.alloc hb.size (zC #[zS r.kt,zI r.num,zI r.chg,zI r.act,zI r.ty.base,.bool r.ty.k,.bool r.ty.l,.bool r.ty.x,.int .u64 r.sum,zI r.size,zS r.frm,zI r.fnum] 78);have HB5:=hd_ (z0r HI.2.2.1 hb5);have HO5:=hd_ (z0n HI.2.2.2 hb5);have HX5:=hd_ (hX w5);have e3:(w5.alloc (zC #[zS r.kt,zI r.num,zI r.chg,zI r.act,zI r.ty.base,.bool r.ty.k,.bool r.ty.l,.bool r.ty.x,.int .u64 r.sum,zI r.size,zS r.frm,zI r.fnum] 78)).cell? ⟨w5.heap.size,3,none⟩=some (zI r.act):=(hX w5).cell 3;clear hb hb5 s0 d0 d1 hX;go_upto_region 9 with fail;generalize w5.alloc (zC #[zS r.kt,zI r.num,zI r.chg,zI r.act,zI r.ty.base,.bool r.ty.k,.bool r.ty.l,.bool r.ty.x,.int .u64 r.sum,zI r.size,zS r.frm,zI r.fnum] 78)=W5 at HB5 HO5 HX5 e3 |-;generalize w5.heap.size=g13 at HX5 e3 |-;have HF5:=hd_ (HFP W5 (z0r HB3 HB5));obtain⟨fo,hfo⟩:∃ fo,zdy es p=fo:=⟨_,rfl⟩;rw[hfo] at HF5;have HFO:=hd_ hfo;clear hfo;cases fo with
    | none =>
     have HW0:=hd_ (HWO r rfl HFO);go_wp2_with fail;refine HF5.mono ?_;rintro e w6 ⟨rfl,hb⟩;have HB6:=hd_ (z0r HB5 hb);have HO6:=hd_ (z0n HO5 hb);clear hb e3;go_wp2_with fail;go_roundw
     exact⟨k+1,n,A,c,rfl,by go_num,by omega,by omega,hd_ (by rw[HT.out,HW0.out];simp only[Option.toList,ZM];exact⟨HJ (fun h e=>by rw[HW0.out] at e;cases e),HI.out.2.1,HB6.out,HO6.out⟩)⟩
     simp [intOf];omega
    | some s =>
     have HW0:=hd_ (HWY r s rfl HLV HFO);by_cases hsz:s.size<=200
     case neg =>
      have HSZ:=hd_ (HLG _ HW0 hsz);have q200:decide ((200:Int)<(s.size:Int))=true:=by simp;omega
      have q200':decide (200<s.size)=true:=by simp;omega
      have q201:200<s.size:=by omega
      go_wp2_with fail;refine HF5.mono ?_;rintro e w6 ⟨rfl,hb⟩;have HB6:=hd_ (z0r HB3 (z0r HB5 hb));clear hb e3;go_wp2_with fail;go_ret2;exact⟨_,_,[],rfl,zn1 _,HB6,.inr (.inl ⟨HME,rfl,HSZ,rfl⟩)⟩
     have HSZ:=hd_ hsz;have q200:decide ((200:Int)<(s.size:Int))=false:=by simp;omega
     have q200':decide (200<s.size)=false:=by simp;omega
     go_wp2_with fail;refine HF5.mono ?_;rintro e w6 ⟨rfl,hb⟩;have HB6:=hd_ (z0r HB5 hb);have HO6:=hd_ (z0n HO5 hb);have e1:w6.cell? ⟨g13,1,none⟩=some (zI r.num):=(HX5.kw hb HX5.lt).cell 1;clear hb e3;have hba:zB w6 (w6.alloc (zC #[zS p,zI r.num,zS s] 84)):=zR;have HO7:=hd_ (z0n HO6 hba);have HB7:=hd_ (z0r HB6 hba);have hrow:=z0i w6 [zS p,zI r.num,zS s] 84 3 1 rfl (by decide) _ rfl
     clear hba;go_wp2_with (at_builtin;refine z0k rfl rfl z6g HO7 rfl hrow rfl HB7 HB7.size (z6h ⟨p,r.num,s⟩) (by omega) (by unfold maxLen;omega) ?_;intro A' c' w8 hown8 hbl8)
     have HN:Hid ((∀ j (hj:j<l.length),j<k+1->∀ h,z8i D (zdy es) m l[j]=some h->h.loc.size<=200)/\n+1=((l.take (k+1)).filterMap (z8i D (zdy es) m)).length/\zB w3 w8/\w8.ownsRow w3.heap.size 84 3 (zL A' (n+1) c') (n+1) (((l.take (k+1)).filterMap (z8i D (zdy es) m)).flatMap Hav.cells)):=hd_ (by
      rw[HT.out,HW0.out];refine⟨HJ (fun h e=>by rw[HW0.out] at e;injection e with e;rw[<- e];exact HSZ),by rw[Zc,<- HI.out.2.1];rfl,hbl8,?_⟩
      rw[ZI];exact hown8)
     clear hown8 hbl8;go_wp2_with fail;go_roundw
     exact⟨k+1,n+1,A',c',rfl,by go_num,by omega,by omega,HN⟩
     simp [intOf];omega
 ·have hke:k=l.length:=by omega
  subst hke;have HNL:Hid (¬ Long D es m):=hd_ (fun ⟨p,hp,h,e,hh⟩=>by
   obtain⟨j,hj,rfl⟩:=ZF (HIN.out p h e);have:=HI.out.1 j hj hj h e;omega)
  have HI:=hd_ HI.2;rw[ZH,HWL.out] at HI;have hge:¬((l.length:Int)<(l.length:Int)):=by omega
  go_wp2_with fail;go_ret2;have h:=Row.of_own HI.out.2.2;rw[HI.out.1] at h |-;exact⟨_,_,z8j D (zdy es) m,rfl,h,z0r HB3 HI.2.1,.inr (.inr ⟨HME,rfl,HNL,rfl⟩)⟩
