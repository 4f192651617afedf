/- A part. -/
import Derived.Test.YtlnjaagijaadmaaGreatDoorMvw24
set_option linter.unusedVariables false
set_option linter.unusedSimpArgs false
set_option maxHeartbeats 16000000
set_option maxRecDepth 100000
namespace Go.Proofs.YtlnjaagijaadmaaGreatDoor
open Go.Proofs.Tryz
open Go.RowKit
def zrx (p q:Pat):Bool:=(!q.kr && (p.kr || decide (q.kp.length<p.kp.length))) || ((q.kr && decide (p.kp.length=q.kp.length)) && !p.kr)
theorem zry {p q:Pat}(h:Wi p q):zrx p q=false:=by
 unfold zrx;rcases zhp h with⟨a,b⟩ | ⟨a,b,c⟩
 ·rw[a];rcases b with b | b
  ·rw[b];simp
  ·simp;omega
 ·rw[a,b,c];simp
theorem zrz {p q:Pat}(le:q.kp.length<=p.kp.length)(h:zrx p q=false)(all:∀(k:Nat) (h:k<q.kp.length) (h2:k<p.kp.length),zbl p.kp[k] q.kp[k]=true):Wi p q:=by
 refine zhq le ?_ (fun k hk=>all k hk _);unfold zrx at h;cases hq:q.kr <;> cases hp:p.kr <;> rw[hq,hp] at h <;> simp at h
 ·exact .inr ⟨rfl,rfl,by omega⟩
 ·exact .inl ⟨rfl,.inr (by omega)⟩
 ·exact .inl ⟨rfl,.inl rfl⟩
def WinW (w:zW)(p q:Pat)(e:Ending)(w':zW):Prop:=∃ b,e=.returned (.bool b)/\(b=true↔Wi p q)/\zB w w'
theorem zs0 (p q:Pat)(A B:zP)(a b:Nat)(w:zW)(hp:zbx w (zL A p.kp.length a) p)(hq:zbx w (zL B q.kp.length b) q)(hpe:z8w p=0)(hqe:z8w q=0):
  Calls prog 89 #[.agg #[zL A p.kp.length a,.bool p.kr],.agg #[zL B q.kp.length b,.bool q.kr]] w (WinW w p q):=by
 have hA:zB w ((w.alloc (zC #[zL A p.kp.length a,.bool p.kr] 56)).alloc (zC #[zL B q.kp.length b,.bool q.kr] 56)):=(zR).alloc (by simp) _
 have h2:zch ((w.alloc (zC #[zL A p.kp.length a,.bool p.kr] 56)).alloc (zC #[zL B q.kp.length b,.bool q.kr] 56)) w.heap.size (zL A p.kp.length a) p.kr:=(z0l w [zL A p.kp.length a,.bool p.kr] 56).alloc _;have h3:zch ((w.alloc (zC #[zL A p.kp.length a,.bool p.kr] 56)).alloc (zC #[zL B q.kp.length b,.bool q.kr] 56)) (w.heap.size+1) (zL B q.kp.length b) q.kr:=by
  have:=z0l (w.alloc (zC #[zL A p.kp.length a,.bool p.kr] 56)) [zL B q.kp.length b,.bool q.kr] 56;rw[Zl] at this;exact this
 have HCP:=hd_ (fun X (hX:zB w X)=>zd3 p A a X (hp.kw hX).1 hp.small);have HCQ:=hd_ (fun X (hX:zB w X)=>zd3 q B b X (hq.kw hX).1 hq.small);rw[hpe] at HCP;rw[hqe] at HCQ;have HIN:Hid (∀(k:Nat) (h:k<q.kp.length) (h2:k<p.kp.length) X,Calls prog 91 #[zS p.kp[k],zS q.kp[k]] X fun e w'=>e=.returned (.bool (zbl p.kp[k] q.kp[k]))/\zB X w'):=hd_ fun k h h2 X =>
  zpi p.kp[k] q.kp[k] X (zd5 hpe _) (zd5 hqe h) (hp.2 _ (Za _)) (hq.2 _ (Za h))
 have HP:=hd_ hp;have HQ:=hd_ hq;have hq12:=zqh hqe;have hp12:=zqh hpe;have HNO:Hid (∀ b,(b=false/\¬ Wi p q\/b=true/\Wi p q)->(b=true↔Wi p q)):=hd_ fun b h=>by
  rcases h with⟨rfl,h⟩ | ⟨rfl,h⟩
  ·exact⟨fun e=>(by cases e),fun e=>absurd e h⟩
  ·exact⟨fun _=>h,fun _=>rfl⟩
 clear hp hq hpe hqe;go_enter func89,ntmps89;go_upto_region 1 with fail;generalize (w.alloc (zC #[zL A p.kp.length a,.bool p.kr] 56)).alloc (zC #[zL B q.kp.length b,.bool q.kr] 56)=W1 at hA h2 h3 |-;have x0:=h2.c0;have x1:=h2.c1;have y0:=h3.c0;have y1:=h3.c1;have H:=hd_ (Zi hA (Zi h2 h3));have HC1:=hd_ (HCP W1 hA);clear hA h2 h3;obtain⟨lt,hlt⟩:∃ lt,decide ((p.kp.length:Int)<(q.kp.length:Int))=lt:=⟨_,rfl⟩;have HLT:=hd_ hlt;go_wp2_with fail;refine HC1.mono ?_;rintro e w2 ⟨rfl,hb⟩;dsimp only;have HB:=hd_ (z0r H.1 hb);have HG:=hd_ (Zi (H.out.2.1.low hb) (H.out.2.2.low hb));have HC2:=hd_ (HCQ w2 HB);clear hb x0 x1 y0 y1;have x0:=HG.out.1.c0;have x1:=HG.out.1.c1;have y0:=HG.out.2.c0;have y1:=HG.out.2.c1;cases lt with
 | true =>
  have h9:p.kp.length<q.kp.length:=by have:=of_decide_eq_true hlt;omega
  go_wp2_with fail;refine HC2.mono ?_;rintro e w3 ⟨rfl,hb⟩;dsimp only;have HB3:=hd_ (z0r HB hb);have HG3:=hd_ (Zi (HG.out.1.low hb) (HG.out.2.low hb));clear hb x0 x1 y0 y1;have x0:=HG3.out.1.c0;go_wp2_with fail;go_ret;exact⟨_,rfl,HNO _ (.inl ⟨rfl,fun h=>by have h1:=h.le;have h2:=of_decide_eq_true HLT.out;omega⟩),HB3⟩
 | false =>
  have hle:q.kp.length<=p.kp.length:=by have:=of_decide_eq_false hlt;omega
  go_wp2_with fail;refine HC2.mono ?_;rintro e w3 ⟨rfl,hb⟩;dsimp only;have HB3:=hd_ (z0r HB hb);have HG3:=hd_ (Zi (HG.out.1.low hb) (HG.out.2.low hb));clear hb x0 x1 y0 y1;have x0:=HG3.out.1.c0;have x1:=HG3.out.1.c1;have y0:=HG3.out.2.c0;have y1:=HG3.out.2.c1;go_upto_region 4 with fail;go_cut [55] (fun v wz=>v=.bool (zrx p q)/\wz=w3)
  case first =>
   have HRN:Hid (zrx p q=((!q.kr && (p.kr || decide (q.kp.length<p.kp.length))) || ((q.kr && decide (p.kp.length=q.kp.length)) && !p.kr))):=hd_ rfl;obtain⟨b1,h3⟩:∃ b,p.kr=b:=⟨_,rfl⟩;obtain⟨b2,h4⟩:∃ b,q.kr=b:=⟨_,rfl⟩;rw[h3] at HRN x1;rw[h4] at HRN y1;clear h3 h4;by_cases hqp:q.kp.length<p.kp.length
   ·have hne:¬ p.kp.length=q.kp.length:=by omega
    have q2:((p.kp.length:Int) == (q.kp.length:Int))=false:=by rw[beq_eq_false_iff_ne];omega
    cases b2 <;> cases b1
    all_goals
     go_wp2_with fail;go_meet
     exact⟨by rw[HRN.out];first | rfl | simp [hqp,hne],rfl⟩
   ·have hne:p.kp.length=q.kp.length:=by omega
    have q2:((p.kp.length:Int) == (q.kp.length:Int))=true:=by rw[beq_iff_eq];omega
    cases b2 <;> cases b1
    all_goals
     go_wp2_with fail;go_meet
     exact⟨by rw[HRN.out];first | rfl | simp [hqp,hne],rfl⟩
  case rest =>
   obtain⟨rfl,rfl⟩:=hcut;cases hrn:zrx p q with
   | true =>
    have HRN:=hd_ hrn;clear hrn x0 x1 y0 y1;go_wp2_with fail;go_ret;exact⟨_,rfl,HNO _ (.inl ⟨rfl,fun h=>by have:=zry h;rw[HRN.out] at this;cases this⟩),HB3.out⟩
   | false =>
    have HRN:=hd_ hrn;clear hrn;go_wp2_with fail;clear x0 x1 y0 y1;go_loopw [59] (fun i wr=>∃ k:Nat,i=zI k/\k<=q.kp.length/\Hid (zB wc wr/\∀ j (hj:j<q.kp.length) (hj2:j<p.kp.length),j<k->zbl p.kp[j] q.kp[j]=true)) (fun i _=>q.kp.length - (intOf i).toNat)
    exact⟨0,rfl,Zg _,hd_ ⟨Zb _ _,fun j _ _ h=>by omega⟩⟩
    obtain⟨k,rfl,hk,HI⟩:=hrel;by_cases hlt:k<q.kp.length
    ·obtain⟨ad,rfl,hab,s0⟩:=z20.at_ (HQ.out.kw (z0r HB3.out HI.out.1)).1 hlt;obtain⟨ad2,rfl,hab2,s1⟩:=z20.at_ (HP.out.kw (z0r HB3.out HI.out.1)).1 (Zq hlt hle);have HCI:=hd_ (HIN k hlt (Zq hlt hle) wr);have hlt2:=Zq hlt hle;have x0:=(HG3.out.1.low HI.out.1).c0;have HKT:=hd_ hlt;have HYE:Hid (zbl p.kp[k] q.kp[k]=true->∀ j (hj:j<q.kp.length) (hj2:j<p.kp.length),j<k+1->zbl p.kp[j] q.kp[j]=true):=hd_ (fun h j hj hj2 hjk=>by
      by_cases e:j=k
      ·subst e;exact h
      ·exact HI.2 j hj hj2 (by omega))
     have HNN:Hid (zbl p.kp[k] q.kp[k]=false->¬ Wi p q):=hd_ (fun h hw=>absurd (h.symm.trans (hw.all k hlt)) (by decide))
     generalize q.kp[k]=u at s0 HCI HYE HNN;generalize p.kp[k]=v at s1 HCI HYE HNN;obtain⟨b,hb⟩:∃ b,zbl v u=b:=⟨_,rfl⟩;rw[hb] at HCI HYE HNN;clear hb;cases b with
     | true =>
      have HY:=hd_ (HYE rfl);go_wp2_with fail;refine HCI.mono ?_;rintro e w4 ⟨rfl,hb⟩;dsimp only;have HB4:=hd_ (z0r HI.1 hb);clear hb s0 s1 x0;go_wp2_with fail;go_roundw
      exact⟨k+1,by go_num,by have:=HKT.out;omega,hd_ ⟨HB4,HY⟩⟩
      have:=HKT.out;simp [intOf];omega
     | false =>
      have HN:=hd_ (HNN rfl);go_wp2_with fail;refine HCI.mono ?_;rintro e w4 ⟨rfl,hb⟩;dsimp only;have HB4:=hd_ (z0r HB3 (z0r HI.1 hb));clear hb s0 s1 x0;go_wp2_with fail;go_ret;exact⟨_,rfl,HNO _ (.inl ⟨rfl,HN⟩),HB4⟩
    ·have hke:k=q.kp.length:=by omega
     have HB5:=hd_ (z0r HB3 HI.1);subst hke;have HW:Hid (Wi p q):=hd_ (zrz hle HRN (fun j h1 h2=>HI.2 j h1 h2 h1));go_wp2_with fail;go_ret;exact⟨_,rfl,HNO _ (.inr ⟨rfl,HW⟩),HB5⟩
section
variable {u0 u1 u2 u3 u4 u5 u6 u7 u8 u9 gF gG gH gI gJ gK gL gM gN gO gP gQ gR gT gV gW gX gY gZ i6 i7 i8 ia ib ic ie ig ii ij ik il im io ip iq ir iu iv iw iy iz iA iB iC iD iE iF iG iH iI iJ iK iL iM iN iO iP iQ iR iS iT iU iV iW iX iY iZ j0 j1 j2 j9 jb jd je jf jg jh ji jj jk jl jm jn jo jp jq jr js jt ju bB bD bE bF bG bH bI bJ bK bL bM bN bO bP bQ bT bU bV bW bX bY bZ ca cj cn cx cy cz cA cB cD cF cG cH cI cJ cK cM cN cO cQ cS cZ da db dc dd de df dg dh di dj dm du dw dx dy dz dA dB dC dD dE dF dG dH dI dJ dK dL dM dN dO dP dQ dR dS dT dU dV dW dX dY dZ eb ec ed ef eh : zV}
theorem chR14 (ops:Array Oper)(hops:Tryz.f36.body.bind (z0w 14)=some ops)(Q:Exit->Act->zW->Prop)(V:zW)(gw gp k n cr:Nat)(Ar:zP)(dr:zV)(p:zA)(v:Rev)(bo:Bool)
  (hC:∀ w',zB V w'->w'.cell? ⟨gw,0,none⟩=some (.slice Ar n cr)/\w'.cell? ⟨gw,1,none⟩=some dr/\w'.cell? ⟨gp,k,none⟩=some (zS p)) (hk:(k:Int)<6)
  (hL:∀ X,zB V X->Calls prog 80 #[.agg #[zL Ar n cr,dr],zS p] X fun e w'=>e=.returned (.tuple #[.agg #[zS v.kt,zI v.num,zI v.chg,zI v.act,zI v.ty.base,.bool v.ty.k,.bool v.ty.l,.bool v.ty.x,.int .u64 v.sum,zI v.size,zS v.frm,zI v.fnum],.bool bo])/\zB X w')
  (hQ:∀(fV fW fX fY fZ gf gg gh gu gx gy gz tb:zV) (g:Nat) (w':zW),Blk w' g 78 [zS v.kt,zI v.num,zI v.chg,zI v.act,zI v.ty.base,.bool v.ty.k,.bool v.ty.l,.bool v.ty.x,.int .u64 v.sum,zI v.size,zS v.frm,zI v.fnum]->V.heap.size<=g->zB V w'->Q .normal ⟨#[.pointer (some ⟨gw,0,none⟩),u1,u2,u3,u4,u5,u6,u7,zL (some ⟨gp,0,none⟩) 6 6,u9,gF,gG,gH,gI,gJ,zI k,gL,gM,.pointer (some ⟨g,0,none⟩),tb,gP,gQ,gR,gT,gV,gW,gX,gY,gZ,i6,i7,i8,ia,ib,ic,ie,ig,ii,ij,ik,il,im,io,ip,iq,ir,iu,iv,iw,iy,iz,iA,iB,iC,iD,iE,iF,iG,iH,iI,iJ,iK,iL,iM,iN,iO,iP,iQ,iR,iS,iT,iU,iV,iW,iX,iY,iZ,j0,j1,j2,j9,jb,jd,je,fV,fW,fX,fY,fZ,gf,gg,gh,gu,gx,gy,gz,jr,js,jt,ju,bB,bD,bE,bF,bG,bH,bI,bJ,bK,bL,bM,bN,bO,bP,bQ,bT,bU,bV,bW,bX,bY,bZ,ca,cj,cn,cx,cy,cz,cA,cB,cD,cF,cG,cH,cI,cJ,cK,cM,cN,cO,cQ,cS,cZ,da,db,dc,dd,de,df,dg,dh,di,dj,dm,du,dw,dx,dy,dz,dA,dB,dC,dD,dE,dF,dG,dH,dI,dJ,dK,dL,dM,dN,dO,dP,dQ,dR,dS,dT,dU,dV,dW,dX,dY,dZ,eb,ec,ed,ef,eh],[]⟩ w'):
  (Code.region 14 ops true).wp prog Q ⟨#[.pointer (some ⟨gw,0,none⟩),u1,u2,u3,u4,u5,u6,u7,zL (some ⟨gp,0,none⟩) 6 6,u9,gF,gG,gH,gI,gJ,zI k,gL,gM,gN,gO,gP,gQ,gR,gT,gV,gW,gX,gY,gZ,i6,i7,i8,ia,ib,ic,ie,ig,ii,ij,ik,il,im,io,ip,iq,ir,iu,iv,iw,iy,iz,iA,iB,iC,iD,iE,iF,iG,iH,iI,iJ,iK,iL,iM,iN,iO,iP,iQ,iR,iS,iT,iU,iV,iW,iX,iY,iZ,j0,j1,j2,j9,jb,jd,je,jf,jg,jh,ji,jj,jk,jl,jm,jn,jo,jp,jq,jr,js,jt,ju,bB,bD,bE,bF,bG,bH,bI,bJ,bK,bL,bM,bN,bO,bP,bQ,bT,bU,bV,bW,bX,bY,bZ,ca,cj,cn,cx,cy,cz,cA,cB,cD,cF,cG,cH,cI,cJ,cK,cM,cN,cO,cQ,cS,cZ,da,db,dc,dd,de,df,dg,dh,di,dj,dm,du,dw,dx,dy,dz,dA,dB,dC,dD,dE,dF,dG,dH,dI,dJ,dK,dL,dM,dN,dO,dP,dQ,dR,dS,dT,dU,dV,dW,dX,dY,dZ,eb,ec,ed,ef,eh],[]⟩ V:=by
 simp only[Tryz.f36,Zp,z0w] at hops
 simp at hops
 subst hops;have HQ:=hd_ hQ;have HLZ:=hd_ hL;have hVA:zB V (V.alloc (zC #[zS ⟨#[]⟩,zI 0,zI 0,zI 0,zI 0,.bool false,.bool false,.bool false,.int .u64 0,zI 0,zS ⟨#[]⟩,zI 0] 78)).drew:=(zR).drew;obtain⟨x0,x1,x2⟩:=hC V (Zb _ _);obtain⟨y0,y1,y2⟩:=hC _ hVA;clear hVA hC hQ hL;refine wp_region_noPanic ?_;go_region_law (first
  | (go_simp;go_at_call 80;refine (HLZ _ (by repeat (first | exact Zb _ _ | refine Below.drew ?_ | refine z0t ?_ _))).mono ?_;rintro e w8 ⟨rfl,hX8⟩;have hS8:zB V w8:=(by repeat (first | exact Zb _ _ | refine Below.drew ?_ | refine z0t ?_ _):zB V _).trans (hX8.mono (by simp));(try (have hblk:=Blk.kw (Blk.drew' (z0l V [zS ⟨#[]⟩,zI 0,zI 0,zI 0,zI 0,.bool false,.bool false,.bool false,.int .u64 0,zI 0,zS ⟨#[]⟩,zI 0] 78)) hX8 (by simp);obtain⟨p0,p1,p2,p3,p4,p5,p6,p7,p8,p9,p10,p11⟩:=z57 hblk;obtain⟨r0,r1,r2,r3,r4,r5,r6,r7,r8,r9,r10,r11⟩:=zf0 hblk))))
 all_goals refine NoPanic.normal ?_
 all_goals first
  | exact HQ _ _ _ _ _ _ _ _ _ _ _ _ _ _ _ (zf1 hblk v) (Zd _) (zf2 hS8 (Zd _) v)
  | exact HQ _ _ _ _ _ _ _ _ _ _ _ _ _ _ _ (z0l w8 [zS v.kt,zI v.num,zI v.chg,zI v.act,zI v.ty.base,.bool v.ty.k,.bool v.ty.l,.bool v.ty.x,.int .u64 v.sum,zI v.size,zS v.frm,zI v.fnum] 78) hS8.size (hS8.alloc hS8.size _)
theorem chR22 (ops:Array Oper)(hops:Tryz.f36.body.bind (z0w 22)=some ops)(Q:Exit->Act->zW->Prop)(V:zW)(gw gp k n cr:Nat)(Ar:zP)(dr:zV)(p:zA)(v:Rev)(bo:Bool)
  (hC:∀ w',zB V w'->w'.cell? ⟨gw,0,none⟩=some (.slice Ar n cr)/\w'.cell? ⟨gw,1,none⟩=some dr/\w'.cell? ⟨gp,k,none⟩=some (zS p)) (hk:(k:Int)<6)
  (hL:∀ X,zB V X->Calls prog 80 #[.agg #[zL Ar n cr,dr],zS p] X fun e w'=>e=.returned (.tuple #[.agg #[zS v.kt,zI v.num,zI v.chg,zI v.act,zI v.ty.base,.bool v.ty.k,.bool v.ty.l,.bool v.ty.x,.int .u64 v.sum,zI v.size,zS v.frm,zI v.fnum],.bool bo])/\zB X w')
  (hQ:∀(aH aI aJ aK aL aM aN aO aP aQ aR aS tb:zV) (g:Nat) (w':zW),Blk w' g 78 [zS v.kt,zI v.num,zI v.chg,zI v.act,zI v.ty.base,.bool v.ty.k,.bool v.ty.l,.bool v.ty.x,.int .u64 v.sum,zI v.size,zS v.frm,zI v.fnum]->V.heap.size<=g->zB V w'->Q .normal ⟨#[.pointer (some ⟨gw,0,none⟩),u1,u2,u3,u4,u5,u6,u7,zL (some ⟨gp,0,none⟩) 6 6,zI k,gF,gG,gH,gI,gJ,gK,gL,gM,gN,gO,gP,.pointer (some ⟨g,0,none⟩),tb,gT,gV,gW,gX,gY,gZ,i6,i7,i8,ia,ib,ic,ie,ig,ii,ij,ik,il,im,io,ip,iq,ir,iu,iv,iw,iy,iz,iA,iB,iC,iD,iE,iF,iG,iH,iI,iJ,iK,iL,iM,iN,iO,iP,iQ,iR,iS,iT,iU,iV,iW,iX,iY,iZ,j0,j1,j2,j9,jb,jd,je,jf,jg,jh,ji,jj,jk,jl,jm,jn,jo,jp,jq,jr,js,jt,ju,bB,bD,bE,bF,bG,bH,bI,bJ,bK,bL,bM,bN,bO,bP,bQ,bT,bU,bV,bW,bX,bY,bZ,ca,cj,cn,cx,cy,cz,aH,aI,aJ,aK,aL,aM,aN,aO,aP,aQ,aR,aS,cQ,cS,cZ,da,db,dc,dd,de,df,dg,dh,di,dj,dm,du,dw,dx,dy,dz,dA,dB,dC,dD,dE,dF,dG,dH,dI,dJ,dK,dL,dM,dN,dO,dP,dQ,dR,dS,dT,dU,dV,dW,dX,dY,dZ,eb,ec,ed,ef,eh],[]⟩ w'):
  (Code.region 22 ops true).wp prog Q ⟨#[.pointer (some ⟨gw,0,none⟩),u1,u2,u3,u4,u5,u6,u7,zL (some ⟨gp,0,none⟩) 6 6,zI k,gF,gG,gH,gI,gJ,gK,gL,gM,gN,gO,gP,gQ,gR,gT,gV,gW,gX,gY,gZ,i6,i7,i8,ia,ib,ic,ie,ig,ii,ij,ik,il,im,io,ip,iq,ir,iu,iv,iw,iy,iz,iA,iB,iC,iD,iE,iF,iG,iH,iI,iJ,iK,iL,iM,iN,iO,iP,iQ,iR,iS,iT,iU,iV,iW,iX,iY,iZ,j0,j1,j2,j9,jb,jd,je,jf,jg,jh,ji,jj,jk,jl,jm,jn,jo,jp,jq,jr,js,jt,ju,bB,bD,bE,bF,bG,bH,bI,bJ,bK,bL,bM,bN,bO,bP,bQ,bT,bU,bV,bW,bX,bY,bZ,ca,cj,cn,cx,cy,cz,cA,cB,cD,cF,cG,cH,cI,cJ,cK,cM,cN,cO,cQ,cS,cZ,da,db,dc,dd,de,df,dg,dh,di,dj,dm,du,dw,dx,dy,dz,dA,dB,dC,dD,dE,dF,dG,dH,dI,dJ,dK,dL,dM,dN,dO,dP,dQ,dR,dS,dT,dU,dV,dW,dX,dY,dZ,eb,ec,ed,ef,eh],[]⟩ V:=by
 simp only[Tryz.f36,Zp,z0w] at hops
 simp at hops
 subst hops;have HQ:=hd_ hQ;have HLZ:=hd_ hL;have hVA:zB V (V.alloc (zC #[zS ⟨#[]⟩,zI 0,zI 0,zI 0,zI 0,.bool false,.bool false,.bool false,.int .u64 0,zI 0,zS ⟨#[]⟩,zI 0] 78)).drew:=(zR).drew;obtain⟨x0,x1,x2⟩:=hC V (Zb _ _);obtain⟨y0,y1,y2⟩:=hC _ hVA;clear hVA hC hQ hL;refine wp_region_noPanic ?_;go_region_law (first
  | (go_simp;go_at_call 80;refine (HLZ _ (by repeat (first | exact Zb _ _ | refine Below.drew ?_ | refine z0t ?_ _))).mono ?_;rintro e w8 ⟨rfl,hX8⟩;have hS8:zB V w8:=(by repeat (first | exact Zb _ _ | refine Below.drew ?_ | refine z0t ?_ _):zB V _).trans (hX8.mono (by simp));(try (have hblk:=Blk.kw (Blk.drew' (z0l V [zS ⟨#[]⟩,zI 0,zI 0,zI 0,zI 0,.bool false,.bool false,.bool false,.int .u64 0,zI 0,zS ⟨#[]⟩,zI 0] 78)) hX8 (by simp);obtain⟨p0,p1,p2,p3,p4,p5,p6,p7,p8,p9,p10,p11⟩:=z57 hblk;obtain⟨r0,r1,r2,r3,r4,r5,r6,r7,r8,r9,r10,r11⟩:=zf0 hblk))))
 all_goals refine NoPanic.normal ?_
 all_goals first
  | exact HQ _ _ _ _ _ _ _ _ _ _ _ _ _ _ _ (zf1 hblk v) (Zd _) (zf2 hS8 (Zd _) v)
  | exact HQ _ _ _ _ _ _ _ _ _ _ _ _ _ _ _ (z0l w8 [zS v.kt,zI v.num,zI v.chg,zI v.act,zI v.ty.base,.bool v.ty.k,.bool v.ty.l,.bool v.ty.x,.int .u64 v.sum,zI v.size,zS v.frm,zI v.fnum] 78) hS8.size (hS8.alloc hS8.size _)
end
open Go.Sort (grow)
def ChPost (w wr:zW)(U g gw m:Nat)(D:List Rev)(dv dr cv:zV)(n:Nat)(num:Int)(e:Ending)(w':zW):Prop:=∃(ev:zV) (es:List Edt) (cv':zV) (l':List Cnk),e=.returned (.agg #[zI num,zS ⟨#[]⟩,zS ⟨#[]⟩,ev,zL none 0 0])/\z3x w' ev es/\EdK D 6 es/\WsB w w' U g gw m D dv dr cv' l'/\l'.length<=n+6/\Frm wr w' g gw cv cv'
theorem edtElem:z0e prog 91 88 12 96:=z0f underlying91 (z:=z2t.val) (by kernel_rfl) rfl (by decide)
theorem chT10 (T:Code)(hT:Tryz.f36.body.bind (tailAt 10)=some T){w we W3:zW}{U g gw m g6 g7 gp B n0:Nat}{D:List Rev}{dr cv:zV}{l:List Cnk}{Ar:zP}{cr:Nat}{num a c:Int}(hm:m<=80000)(hD:D.length<=1000)(hl:l.length=n0)(hn0:n0<=50000)
  (hac:a=-1/\c=-1\/(0<=a/\a<6)/\0<=c/\c<6) (hS:zl1 w we W3 U g gw m D (zL Ar D.length cr) dr cv cv l g6 g7 gp B num [] (zL none 0 0))
  (u3 u4 u5 gG gH gI gJ gK gL gM gN gO gP gQ gR gT gV gW gX gY gZ i6 i7 i8 ia ib ic ie ig ii ij ik il im io ip iq ir iu iv iw iy iz iA iB iC iD iE iF iG iH iI iJ iK iL iM iN iO iP iQ iR iS iT iU iV iW iX iY iZ j0 j1 j2 j9 jb jd je jf jg jh ji jj jk jl jm jn jo jp jq jr js jt ju bB bD bE bF bG bH bI bJ bK bL bM bN bO bP bQ bT bU bV bW bX bY bZ ca cj cn cx cy cz cA cB cD cF cG cH cI cJ cK cM cN cO cQ cS cZ da db dc dd de df dg dh di dj dm du dw dx dy dz dA dB dC dD dE dF dG dH dI dJ dK dL dM dN dO dP dQ dR dS dT dU dV dW dX dY dZ eb ec ed ef eh:zV):
  T.wp prog (bodyPost prog Tryz.f36 (ChPost w we U g gw (m+67) D (zL Ar D.length cr) dr cv n0 num)) ⟨#[.pointer (some ⟨gw,0,none⟩),.pointer (some ⟨g,0,none⟩),zI num,u3,u4,u5,.pointer (some ⟨g6,0,none⟩),.pointer (some ⟨g7,0,none⟩),zL (some ⟨gp,0,none⟩) 6 6,zI a,zI c,gG,gH,gI,gJ,gK,gL,gM,gN,gO,gP,gQ,gR,gT,gV,gW,gX,gY,gZ,i6,i7,i8,ia,ib,ic,ie,ig,ii,ij,ik,il,im,io,ip,iq,ir,iu,iv,iw,iy,iz,iA,iB,iC,iD,iE,iF,iG,iH,iI,iJ,iK,iL,iM,iN,iO,iP,iQ,iR,iS,iT,iU,iV,iW,iX,iY,iZ,j0,j1,j2,j9,jb,jd,je,jf,jg,jh,ji,jj,jk,jl,jm,jn,jo,jp,jq,jr,js,jt,ju,bB,bD,bE,bF,bG,bH,bI,bJ,bK,bL,bM,bN,bO,bP,bQ,bT,bU,bV,bW,bX,bY,bZ,ca,cj,cn,cx,cy,cz,cA,cB,cD,cF,cG,cH,cI,cJ,cK,cM,cN,cO,cQ,cS,cZ,da,db,dc,dd,de,df,dg,dh,di,dj,dm,du,dw,dx,dy,dz,dA,dB,dC,dD,dE,dF,dG,dH,dI,dJ,dK,dL,dM,dN,dO,dP,dQ,dR,dS,dT,dU,dV,dW,dX,dY,dZ,eb,ec,ed,ef,eh],[]⟩ W3:=by
 simp only[Tryz.f36,Zp,tailAt,hasReg] at hT
 simp at hT
 subst hT;have HL:Hid (∀(p:zA) X,z3w X (zL Ar D.length cr) D->Calls prog 79 #[.agg #[zL Ar D.length cr,dr],zS p] X fun e w'=>e=.returned (.tuple #[.bool (zgi D p),zI (zf8 (zfc D p)).num])/\zB X w'):=hd_ fun p X hX=>zgk D p _ dr X hX (by omega)
 have HLA:Hid (∀(p:zA) X,z3w X (zL Ar D.length cr) D->Calls prog 80 #[.agg #[zL Ar D.length cr,dr],zS p] X (zfk X (zfc D p))):=hd_ fun p X hX=>zfl D p _ dr X hX (by omega)
 have HAC:=hd_ hac;have HI0:Hid (∃ m' cv' l' es ev,m'<=m+11 * 0/\l'.length<=n0+0/\EdK D 0 es/\zl1 w we W3 U g gw m' D (zL Ar D.length cr) dr cv cv' l' g6 g7 gp B num es ev):=hd_ ⟨m,cv,l,[],_,by omega,by omega,edK_0 D,hS⟩
 clear hac hS hl;go_wp2_with fail;go_loopw [15] (fun i wx=>∃ k:Nat,i=zI k/\k<=6/\Hid (∃ m' cv' l' es ev,m'<=m+11 * k/\l'.length<=n0+k/\EdK D k es/\zl1 w we wx U g gw m' D (zL Ar D.length cr) dr cv cv' l' g6 g7 gp B num es ev)) (fun i _=>6 - (intOf i).toNat)
 exact⟨0,rfl,Zg _,HI0⟩
 obtain⟨k,rfl,hk,HI⟩:=hrel;clear HI0;by_cases hlt:k<6
 ·obtain⟨m',cv',l',es,ev,hm',hl',hEK,hST⟩:=HI.out;have HS:=hd_ hST;have HB:=hd_ (Zi hm' (Zi hl' hEK));have HLT:=hd_ hlt;have k6:=hlt;have hmb:m'<=80100:=by omega
  clear HI hm' hl' hEK hST;have fs:wr.cell? ⟨gp,k,none⟩=some (zS (z8e[k]'(show k<z8e.length from k6))):=(HS.out.bp.cell k).trans (by rw[ZA,Ze (show k<z8e.length from k6)];rfl)
  have fc:=HL.out (z8e[k]'(show k<z8e.length from k6));have HPP:Hid (z8e[k]'(show k<z8e.length from k6)=z8e[k]'(show k<z8e.length from k6)):=hd_ rfl;generalize hpp:z8e[k]'(show k<z8e.length from k6)=p at fs fc;have HPE:=hd_ hpp;clear hpp HPP;have HNU:Hid (∃ q,(zf8 (zfc D p)).num=q):=hd_ ⟨_,rfl⟩;generalize zgi D p=fb at fc;generalize hnn:(zf8 (zfc D p)).num=fn at fc;have HNN:=hd_ hnn;clear hnn HNU;have cL:∀ d os,Calls prog 79 #[.agg #[zL Ar D.length cr,dr],zS p] (grow (redrawn wr d) os) fun e w''=>e=.returned (.tuple #[.bool fb,zI fn])/\∃ p:Regrown,w''=grow (redrawn wr p.d) p.os:=fun d os=>Calls.regrown_of (fc _ (HS.ws.revs.kw (below_regrown wr d os)));have x0:=cell_regrown (show wr.cell? ⟨gw,0,none⟩=some (.slice Ar D.length cr) from HS.out.ws.box.cell 0);have x1:=cell_regrown (show wr.cell? ⟨gw,1,none⟩=some dr from HS.out.ws.box.cell 1);have x2:=cell_regrown fs;have qz:(k:Int)<6:=by omega
  clear fs fc;go_upto_region 13 with fail;refine wp_region_quiet_below (by kernel_rfl) (by kernel_rfl) ?_
  repeat (first | go_big_quiet_step (exact cL _ _) | quiet_step (exact cL _ _))
  refine wpQuiet_nil ?_;intro _ hw9;obtain⟨⟨dq,osq⟩,hw9⟩:=hw9;subst hw9;have HS7:=hd_ (HS.ku (below_regrown wr dq osq));clear cL x0 x1 x2 qz;generalize grow (redrawn wr dq) osq=w7 at HS7 |-;have HC:Hid (∀ w',zB w7 w'->w'.cell? ⟨gw,0,none⟩=some (.slice Ar D.length cr)/\w'.cell? ⟨gw,1,none⟩=some dr/\w'.cell? ⟨gp,k,none⟩=some (zS p)):=hd_ fun w' hb=>⟨(HS7.ku hb).ws.box.cell 0,(HS7.ku hb).ws.box.cell 1,((HS7.ku hb).bp.cell k).trans (by rw[ZA,Ze (show k<z8e.length from k6),HPE.out];rfl)⟩
  have HR7:=hd_ HS7.ws.revs;have HLP:=HLA.out p;unfold zfk at HLP;generalize zf8 (zfc D p)=v at HLP;generalize (zfc D p).isSome=bo at HLP;have qz:(k:Int)<6:=by omega
  go_upto_region 14 with fail;refine chR14 _ (by kernel_rfl) _ w7 gw gp k D.length cr Ar dr p v bo HC qz (fun X hX=>HLP X (z3w.kw HR7 hX)) ?_
  intro fV fW fX fY fZ gf gg gh gu gx gy gz tb g18 w8 hb18 hge18 hbel;have HS8:=hd_ (HS7.ku hbel);have H18:=hd_ hb18;have HG18:Hid (B<=g18):=hd_ (Zf HS7.ord.2.2.2.2 hge18);clear HLP HR7 hb18 hge18 hbel HC HS7;have s8:w8.cell? ⟨gp,k,none⟩=some (zS p):=(HS8.bp.cell k).trans (by rw[ZA,Ze (show k<z8e.length from k6),HPE.out];rfl)
  have hal:zB w8 (w8.alloc (zC #[zS p,zI 0,zI 0,.bool false,.bool false,.bool false,.int .u64 0,zI 0,zI fn,zS ⟨#[]⟩,zI 0,zI 0] 88)):=zR;have HS9:=hd_ (HS8.ku hal);have H189:=hd_ (H18.kw hal H18.lt);have H20:Hid (Blk _ _ 88 [zS p,zI 0,zI 0,.bool false,.bool false,.bool false,.int .u64 0,zI 0,zI fn,zS ⟨#[]⟩,zI 0,zI 0]):=hd_ (z0l w8 _ _);have HO:Hid (B<=w8.heap.size/\w8.heap.size≠g18/\cv'.ownBlock≠some w8.heap.size/\ev.ownBlock≠some w8.heap.size):=hd_ ⟨HS8.ord.2.2.2.2,by have:=H18.out.lt;omega,fun e=>by have:=(HS8.out.ws.cnk.lt _ e).2;omega,fun e=>by have:=(HS8.out.own.lt _ e).2;omega⟩
  clear hal H18;go_upto_block 2 with fail
  clear s8;generalize w8.alloc (zC #[zS p,zI 0,zI 0,.bool false,.bool false,.bool false,.int .u64 0,zI 0,zI fn,zS ⟨#[]⟩,zI 0,zI 0] 88)=w9 at HS9 H189 H20 |-;generalize w8.heap.size=g20 at H20 HO |-;clear HS8;go_cut [] (fun wx=>Hid (∃(x:Edt) (m'':Nat) (cv'':zV) (l'':List Cnk),x.kt=p/\x.base=fn/\m''<=m'+11/\l''.length<=l'.length+1/\Blk wx g20 88 [zS x.kt,zI x.act,zI x.ty.base,.bool x.ty.k,.bool x.ty.l,.bool x.ty.x,.int .u64 x.sum,zI x.size,zI x.base,zS x.frm,zI x.fnum,zI x.fence]/\zl1 w we wx U g gw m'' D (zL Ar D.length cr) dr cv cv'' l'' g6 g7 gp B num es ev))
  case first =>
   by_cases h1:(k:Int)=a
   ·have q1:((k:Int) == a)=true:=by simpa using h1
    clear h1;go_upto_region 20 with fail;refine chR20 _ (by kernel_rfl) _ w9 g18 g20 v ⟨p,0,z2o,0,0,fn,z2r,0,0⟩ H189 H20 HO.2.1 ?_
    intro aB aC aD aE w10 hB hG;have HB10:=hd_ hB;have HS10:=hd_ (HS9.kg hG (fun k e=>by injection e with e;subst e;exact⟨HO.1,HO.2.2⟩))
    clear hB hG q1;go_wp2_with fail;go_meet
    exact hd_ ⟨⟨p,5,v.ty,0,0,fn,z2r,0,0⟩,m',cv',l',rfl,rfl,by omega,by omega,HB10,HS10⟩
   ·have q1:((k:Int) == a)=false:=by simpa using h1
    clear h1;by_cases h2:(k:Int)=c
    ·have q2:((k:Int) == c)=true:=by simpa using h2
     have ha0:0<=a/\a<6:=by rcases HAC.out with e | e <;> omega
     obtain⟨ja,rfl⟩:∃ j:Nat,a=j:=⟨a.toNat,by omega⟩
     have ja6:ja<6:=by omega
     have HC9:Hid (∀ w',zB w9 w'->w'.cell? ⟨gw,0,none⟩=some (.slice Ar D.length cr)/\w'.cell? ⟨gw,1,none⟩=some dr/\w'.cell? ⟨gp,ja,none⟩=some (zS (z8e[ja]'ja6))):=hd_ fun w' hb=>⟨(HS9.ku hb).ws.box.cell 0,(HS9.ku hb).ws.box.cell 1,((HS9.ku hb).bp.cell ja).trans (by rw[ZA,Ze (show ja<z8e.length from ja6)];rfl)⟩
     have HLP:=HLA.out (z8e[ja]'ja6);generalize z8e[ja]'ja6=p2 at HC9 HLP;unfold zfk at HLP;generalize zf8 (zfc D p2)=v2 at HLP;generalize (zfc D p2).isSome=bo2 at HLP;have HR9:=hd_ HS9.ws.revs;have qa:(ja:Int)<6:=by omega
     clear h2 ha0;go_upto_region 22 with fail;refine chR22 _ (by kernel_rfl) _ w9 gw gp ja D.length cr Ar dr p2 v2 bo2 HC9 qa (fun X hX=>HLP X (z3w.kw HR9 hX)) ?_
     intro aH aI aJ aK aL aM aN aO aP aQ aR aS tb2 g21 w10 hb21 hge21 hbel;have HS10:=hd_ (HS9.ku hbel);have H2010:=hd_ (H20.kw hbel H20.lt);have H21:=hd_ hb21;have hne21:g20≠g21:=by have:=H20.out.lt;omega
     clear HLP HR9 hb21 hge21 hbel HC9 HS9 q2 qa;go_upto_region 23 with fail;refine chR23 _ (by kernel_rfl) _ w10 g21 g20 v2 ⟨p,0,z2o,0,0,fn,z2r,0,0⟩ H21 H2010 hne21 ?_
     intro aT aU aV aW aX aY aZ ba bf bg bh bi bj w11 hB hG;have HB11:=hd_ hB;have HS11:=hd_ (HS10.kg hG (fun k e=>by injection e with e;subst e;exact⟨HO.1,HO.2.2⟩))
     have HX:=hd_ (z4e U g m' 2 w11 HS11.ws.tape (by omega) (by omega))
     clear hB hG H21 hne21 HS10 H2010 q1;go_wp2_with fail;refine HX.mono ?_;rintro e w12 ⟨k1,rfl,hk1,hT,hK⟩;dsimp only;have HS12:=hd_ (HS11.next hK hT);have HB12:=hd_ (hK.blk HB11 (by have:=HO.out.1;have:=HS11.out.ord;have:=HS11.out.ws.gU;have:=HS11.out.ws.UU;have:=HS11.out.ws.kept.size;have:=HS11.out.lo.1;simp;omega))
     obtain⟨bb,q3⟩:∃ b,(k1 == 0)=b:=⟨_,rfl⟩;clear hk1 hT hK HX HS11 HB11;cases bb with
     | false =>
      go_wp2_with fail;go_meet
      exact hd_ ⟨⟨p,4,v2.ty,v2.sum,v2.size,fn,v2.kt,v2.num,0⟩,m'+1,cv',l',rfl,rfl,by omega,by omega,HB12,HS12⟩
     | true =>
      have HCO:=hd_ (zkz HS12.ws (by have:=HB.out.2.1;omega) (by omega))
      go_wp2_with fail;refine HCO.mono ?_;rintro e w13 ⟨s,z,cv2,l2,rfl,hS,hll,hF⟩;dsimp only;have HS13:=hd_ (HS12.step hF hS);have HB13:=hd_ (hF.blk HB12 (by have:=HO.out.1;have:=HS12.out.ord;have:=HS12.out.ws.gU;have:=HS12.out.ws.UU;have:=HS12.out.ws.kept.size;have:=HS12.out.lo.1;omega) (by have:=HO.out.1;have:=HS12.out.ord;have:=HS12.out.lo.2.1;omega) (zky HS12.ws.cnk HB12 (by decide)))
      have HLL:=hd_ hll;have HNB:Hid (cv2.ownBlock≠some g20/\ev.ownBlock≠some g20):=hd_ ⟨zky hS.cnk HB13 (by decide),HO.2.2.2⟩
      clear hS hll hF HCO HS12 HB12 q3;obtain⟨x0,x1,x2,x3,x4,x5,x6,x7,x8,x9,x10,x11⟩:=z57 HB13.out;obtain⟨f0,f1,f2,f3,f4,f5,f6,f7,f8,f9,f10,f11⟩:=zf0 HB13.out;have HN:=hd_ ((HB13.set_ 6 (.int .u64 (s:Int))).set_ 7 (zI (z:Int)));have HG:=hd_ (HS13.kg (zrm (zrm (zro _ (some g20)) 6 (.int .u64 (s:Int))) 7 (zI (z:Int))) (fun k e=>by injection e with e;subst e;exact⟨HO.1,HNB⟩))
      go_wp2_with fail;go_meet
      exact hd_ ⟨⟨p,4,v2.ty,s,z,fn,v2.kt,v2.num,0⟩,m'+1+5,cv2,l2,rfl,rfl,by omega,HLL,HN,HG⟩
    ·have q2:((k:Int) == c)=false:=by simpa using h2
     have HX:=hd_ (z4e U g m' 3 w9 HS9.ws.tape (by omega) (by omega))
     clear h2;go_wp2_with fail;refine HX.mono ?_;rintro e w10 ⟨k1,rfl,hk1,hT,hK⟩;dsimp only;have HS10:=hd_ (HS9.next hK hT);have HB10:=hd_ (hK.blk H20 (by have:=HO.out.1;have:=HS9.out.ord;have:=HS9.out.ws.gU;have:=HS9.out.ws.UU;have:=HS9.out.ws.kept.size;have:=HS9.out.lo.1;have:=HS9.out.lo.2.1;simp;omega))
     have HV10:=hd_ (hK.blk H189 (by have:=HG18.out;have:=HS9.out.ord;have:=HS9.out.ws.gU;have:=HS9.out.ws.UU;have:=HS9.out.ws.kept.size;have:=HS9.out.lo.1;simp;omega))
     clear hT hK HX HS9 H20 H189;by_cases h3:0<k1
     ·have q3:decide (0<k1)=true:=decide_eq_true h3;clear h3 hk1;go_wp2_with fail;go_roundw
      exact⟨k+1,by go_num,by have:=HLT.out;omega,hd_ ⟨m'+1,cv',l',es,ev,by have:=HB.out.1;omega,by have:=HB.out.2.1;omega,HB.2.2.skip,HS10⟩⟩
      have:=HLT.out;simp [intOf];omega
     ·have q3:decide (0<k1)=false:=decide_eq_false h3;clear h3 hk1;cases fb with
      | false =>
       have HTY:Hid (Calls prog 82 #[.pointer (some ⟨g,0,none⟩)] w10 fun e w'=>∃ ty:Ty,e=.returned (.agg #[zI ty.base,.bool ty.k,.bool ty.l,.bool ty.x])/\z4d w' U g (m'+1+1)/\z49 [g] w10 w'):=hd_ (zil U g (m'+1) w10 HS10.ws.tape (by have:=HS10.out.ws.UU;have:=HS10.out.ws.kept.size;omega) (by omega))
       go_wp2_with fail;refine HTY.mono ?_;rintro e w11 ⟨ty,rfl,hT,hK⟩;dsimp only;have HS11:=hd_ (HS10.next hK hT);have HB11:=hd_ (hK.blk HB10 (by have:=HO.out.1;have:=HS10.out.ord;have:=HS10.out.ws.gU;have:=HS10.out.ws.UU;have:=HS10.out.ws.kept.size;have:=HS10.out.lo.1;have:=HS10.out.lo.2.1;simp;omega))
       have HCO:=hd_ (zkz HS11.ws (by have:=HB.out.2.1;omega) (by omega))
       clear hT hK HTY HS10 HB10 HV10;go_wp2_with fail;refine HCO.mono ?_;rintro e w13 ⟨s,z,cv2,l2,rfl,hS,hll,hF⟩;dsimp only;have HS13:=hd_ (HS11.step hF hS);have HB13:=hd_ (hF.blk HB11 (by have:=HO.out.1;have:=HS11.out.ord;have:=HS11.out.ws.gU;have:=HS11.out.ws.UU;have:=HS11.out.ws.kept.size;have:=HS11.out.lo.1;have:=HS11.out.lo.2.1;omega) (by have:=HO.out.1;have:=HS11.out.ord;have:=HS11.out.ws.gU;have:=HS11.out.ws.UU;have:=HS11.out.ws.kept.size;have:=HS11.out.lo.1;have:=HS11.out.lo.2.1;omega) (zky HS11.ws.cnk HB11 (by decide)))
       have HLL:=hd_ hll;have HNB:Hid (cv2.ownBlock≠some g20/\ev.ownBlock≠some g20):=hd_ ⟨zky hS.cnk HB13 (by decide),HO.2.2.2⟩
       clear hS hll hF HCO HS11 HB11;obtain⟨x0,x1,x2,x3,x4,x5,x6,x7,x8,x9,x10,x11⟩:=z57 HB13.out;obtain⟨f0,f1,f2,f3,f4,f5,f6,f7,f8,f9,f10,f11⟩:=zf0 HB13.out;have HN:=hd_ (((((((HB13.set_ 1 (zI 1)).set_ 2 (zI ty.base)).set_ 3 (.bool ty.k)).set_ 4 (.bool ty.l)).set_ 5 (.bool ty.x)).set_ 6 (.int .u64 (s:Int))).set_ 7 (zI (z:Int)));have HG:=hd_ (HS13.kg (zrm (zrm (zrm (zrm (zrm (zrm (zrm (zro _ (some g20)) 1 (zI 1)) 2 (zI ty.base)) 3 (.bool ty.k)) 4 (.bool ty.l)) 5 (.bool ty.x)) 6 (.int .u64 (s:Int))) 7 (zI (z:Int))) (fun k e=>by injection e with e;subst e;exact⟨HO.1,HNB⟩))
       go_wp2_with fail;go_meet
       exact hd_ ⟨⟨p,1,ty,s,z,fn,z2r,0,0⟩,m'+1+1+5,cv2,l2,rfl,rfl,by omega,HLL,HN,HG⟩
      | true =>
       have HX:=hd_ (z4e U g (m'+1) 4 w10 HS10.ws.tape (by omega) (by omega))
       go_wp2_with fail;refine HX.mono ?_;rintro e w11 ⟨k2,rfl,hk2,hT,hK⟩;dsimp only;have HS11:=hd_ (HS10.next hK hT);have HB11:=hd_ (hK.blk HB10 (by have:=HO.out.1;have:=HS10.out.ord;have:=HS10.out.ws.gU;have:=HS10.out.ws.UU;have:=HS10.out.ws.kept.size;have:=HS10.out.lo.1;have:=HS10.out.lo.2.1;simp;omega))
       have HV11:=hd_ (hK.blk HV10 (by have:=HG18.out;have:=HS10.out.ord;have:=HS10.out.ws.gU;have:=HS10.out.ws.UU;have:=HS10.out.ws.kept.size;have:=HS10.out.lo.1;simp;omega))
       obtain⟨bb,q4⟩:∃ b,(k2 == 0)=b:=⟨_,rfl⟩;clear hk2 hT hK HX HS10 HB10 HV10;cases bb with
       | true =>
        go_upto_region 30 with fail;refine chR30 _ (by kernel_rfl) _ w11 g18 g20 v ⟨p,0,z2o,0,0,fn,z2r,0,0⟩ HV11 HB11 HO.2.1 ?_
        intro bq bw bz bA w12 hB hG;have HB12:=hd_ hB;have HS12:=hd_ (HS11.kg hG (fun k e=>by injection e with e;subst e;exact⟨HO.1,HO.2.2⟩))
        clear hB hG;go_wp2_with fail;go_meet
        exact hd_ ⟨⟨p,3,v.ty,0,0,fn,z2r,0,0⟩,m'+1+1,cv',l',rfl,rfl,by omega,by omega,HB12,HS12⟩
       | false =>
        have HCO:Hid (∀ X,zB w11 X->Calls prog 81 #[.pointer (some ⟨gw,0,none⟩),.pointer (some ⟨g,0,none⟩)] X fun e w'=>∃ s z:Nat,e=.returned (.agg #[.int .u64 s,zI z])/\Blk w' g18 78 [zS v.kt,zI v.num,zI v.chg,zI v.act,zI v.ty.base,.bool v.ty.k,.bool v.ty.l,.bool v.ty.x,.int .u64 v.sum,zI v.size,zS v.frm,zI v.fnum]/\Blk w' g20 88 [zS p,zI 0,zI 0,.bool false,.bool false,.bool false,.int .u64 0,zI 0,zI fn,zS ⟨#[]⟩,zI 0,zI 0]/\(∃ cv2 l2,zl1 w we w' U g gw (m'+1+1+5) D (zL Ar D.length cr) dr cv cv2 l2 g6 g7 gp B num es ev/\l2.length<=l'.length+1/\Blk w' g20 88 [zS p,zI 0,zI 0,.bool false,.bool false,.bool false,.int .u64 0,zI 0,zI fn,zS ⟨#[]⟩,zI 0,zI 0])):=hd_ fun X hX=>by
         have HSX:=hd_ (HS11.ku hX);have hB:=HB11.out.kw hX HB11.out.lt;have hV:=HV11.out.kw hX HV11.out.lt;refine (zkz HSX.ws (by have:=HB.out.2.1;omega) (by omega)).mono ?_
         rintro e w13 ⟨s,z,cv2,l2,rfl,hS,hll,hF⟩;have hB2:=hF.blk hB (by have:=HO.out.1;have:=HSX.out.ord;have:=HSX.out.ws.gU;have:=HSX.out.ws.UU;have:=HSX.out.ws.kept.size;have:=HSX.out.lo.1;have:=HSX.out.lo.2.1;omega) (by have:=HO.out.1;have:=HSX.out.ord;have:=HSX.out.ws.gU;have:=HSX.out.ws.UU;have:=HSX.out.ws.kept.size;have:=HSX.out.lo.1;have:=HSX.out.lo.2.1;omega) (zky HSX.ws.cnk hB (by decide))
         have hV2:=hF.blk hV (by have:=HG18.out;have:=HSX.out.ord;have:=HSX.out.ws.gU;have:=HSX.out.ws.UU;have:=HSX.out.ws.kept.size;have:=HSX.out.lo.1;have:=HSX.out.lo.2.1;omega) (by have:=HG18.out;have:=HSX.out.ord;have:=HSX.out.ws.gU;have:=HSX.out.ws.UU;have:=HSX.out.ws.kept.size;have:=HSX.out.lo.1;have:=HSX.out.lo.2.1;omega) (zky HSX.ws.cnk hV (by decide))
         exact⟨s,z,rfl,hV2,hB2,cv2,l2,HSX.step hF hS,hll,hB2⟩
        clear q1 q2 q3;go_upto_region 16 with fail;refine chR16 _ (by kernel_rfl) _ w11 g gw g18 g20 v ⟨p,0,z2o,0,0,fn,z2r,0,0⟩ _ HV11 HO.2.1 HCO ?_
        intro ab ac ag ah ai aj ak al s z w12 w13 hF hB hV hG;obtain⟨cv2,l2,hS,hll,hB2⟩:=hF;have HNB:Hid (cv2.ownBlock≠some g20/\ev.ownBlock≠some g20):=hd_ ⟨zky hS.ws.cnk hB2 (by decide),HO.2.2.2⟩
        have HS13:=hd_ (hS.kg hG (fun k e=>by injection e with e;subst e;exact⟨HO.1,HNB⟩))
        have HB13:=hd_ hB;have HLL:=hd_ hll;have HX:=hd_ (z4e U g (m'+1+1+5) 4 w13 HS13.ws.tape (by omega) (by omega))
        clear hS hll hB2 hB hV hG HCO HS11 HB11 HV11 q4;go_wp2_with fail;refine HX.mono ?_;rintro e w14 ⟨k3,rfl,hk3,hT,hK⟩;dsimp only;have HS14:=hd_ (HS13.next hK hT);have HB14:=hd_ (hK.blk HB13 (by have:=HO.out.1;have:=HS13.out.ord;have:=HS13.out.ws.gU;have:=HS13.out.ws.UU;have:=HS13.out.ws.kept.size;have:=HS13.out.lo.1;have:=HS13.out.lo.2.1;simp;omega))
        obtain⟨bb,q5⟩:∃ b,(k3 == 0)=b:=⟨_,rfl⟩;clear hk3 hT hK HX HS13 HB13;cases bb with
        | false =>
         go_wp2_with fail;go_meet
         exact hd_ ⟨⟨p,2,v.ty,s,z,fn,z2r,0,0⟩,m'+1+1+5+1,cv2,l2,rfl,rfl,by omega,HLL,HB14,HS14⟩
        | true =>
         have HTY:Hid (Calls prog 82 #[.pointer (some ⟨g,0,none⟩)] w14 fun e w'=>∃ ty:Ty,e=.returned (.agg #[zI ty.base,.bool ty.k,.bool ty.l,.bool ty.x])/\z4d w' U g (m'+1+1+5+1+1)/\z49 [g] w14 w'):=hd_ (zil U g (m'+1+1+5+1) w14 HS14.ws.tape (by have:=HS14.out.ws.UU;have:=HS14.out.ws.kept.size;omega) (by omega))
         go_wp2_with fail;refine HTY.mono ?_;rintro e w15 ⟨ty,rfl,hT,hK⟩;dsimp only;have HS15:=hd_ (HS14.next hK hT);have HB15:=hd_ (hK.blk HB14 (by have:=HO.out.1;have:=HS14.out.ord;have:=HS14.out.ws.gU;have:=HS14.out.ws.UU;have:=HS14.out.ws.kept.size;have:=HS14.out.lo.1;have:=HS14.out.lo.2.1;simp;omega))
         clear hT hK HTY HS14 HB14 q5;obtain⟨x0,x1,x2,x3,x4,x5,x6,x7,x8,x9,x10,x11⟩:=z57 HB15.out;obtain⟨f0,f1,f2,f3,f4,f5,f6,f7,f8,f9,f10,f11⟩:=zf0 HB15.out;have HN:=hd_ ((((HB15.set_ 2 (zI ty.base)).set_ 3 (.bool ty.k)).set_ 4 (.bool ty.l)).set_ 5 (.bool ty.x));have HG:=hd_ (HS15.kg (zrm (zrm (zrm (zrm (zro _ (some g20)) 2 (zI ty.base)) 3 (.bool ty.k)) 4 (.bool ty.l)) 5 (.bool ty.x)) (fun k e=>by injection e with e;subst e;exact⟨HO.1,HNB⟩))
         go_wp2_with fail;go_meet
         exact hd_ ⟨⟨p,2,ty,s,z,fn,z2r,0,0⟩,m'+1+1+5+1+1,cv2,l2,rfl,rfl,by omega,HLL,HN,HG⟩
  case rest =>
   obtain⟨x,m2,cv2,l2,hx1,hx2,hm2,hl2,hXB,hS⟩:=hcut.out;have HS2:=hd_ hS;have HX2:=hd_ (Zi hx1 (Zi hx2 (Zi hm2 hl2)));obtain⟨Ae,ce,rfl⟩:=z0o hS.own;have e3:wc.cell? ⟨g7,3,none⟩=some (.slice Ae es.length ce):=hS.b7.cell 3;obtain⟨x0,x1,x2,x3,x4,x5,x6,x7,x8,x9,x10,x11⟩:=z57 hXB;have hel:es.length<=6:=by have:=HB.out.2.2.len;omega
   have HSA:=hd_ (hS.ku ((Zb wc.heap.size wc).alloc (Zd _) (zC #[zS x.kt,zI x.act,zI x.ty.base,.bool x.ty.k,.bool x.ty.l,.bool x.ty.x,.int .u64 x.sum,zI x.size,zI x.base,zS x.frm,zI x.fnum,zI x.fence] 88)));have hrow:=z0i wc [zS x.kt,zI x.act,zI x.ty.base,.bool x.ty.k,.bool x.ty.l,.bool x.ty.x,.int .u64 x.sum,zI x.size,zI x.base,zS x.frm,zI x.fnum,zI x.fence] 88 12 1 rfl (by unfold maxLen;omega) wc.heap.size rfl
   clear hcut hx1 hx2 hm2 hl2 hXB hS HS9 H20 H189;go_wp2_with (at_builtin;refine z0j rfl rfl edtElem HSA.own rfl hrow rfl (by simp [Value.oneCell']) (by omega) (by unfold maxLen;omega) HSA.ord.2.2.2.2 ?_;intro A' c' w6 hown hgr hob;obtain⟨⟨y3,f3⟩,hNS⟩:=HSA.out.push (es':=es++[x]) hgr (by rw[Zc,ZI];exact hown))
   have HN:=hd_ hNS;have HEK:Hid (EdK D (k+1) (es++[x])):=hd_ (HB.2.2.push (show k<z8e.length from k6) (HX2.out.1.trans HPE.out.symm) (by rw[HX2.out.2.1,HX2.out.1];exact HNN.symm))
   clear hown hgr hob hNS hrow e3 x0 x1 x2 x3 x4 x5 x6 x7 x8 x9 x10 x11;go_wp2_with fail;go_roundw
   exact⟨k+1,by go_num,by have:=HLT.out;omega,hd_ ⟨m2,cv2,l2,es++[x],_,by have:=HB.out.1;have:=HX2.out.2.2.1;omega,by have:=HB.out.2.1;have:=HX2.out.2.2.2;omega,HEK,HN⟩⟩
   have:=HLT.out;simp [intOf];omega
 ·have hk6:k=6:=by omega
  subst hk6;obtain⟨m',cv',l',es,ev,hm',hl',hEK,hS⟩:=HI.out;obtain⟨Ae,ce,rfl⟩:=z0o hS.own;obtain⟨c0,c1,c2,c3,c4⟩:=zgf hS.b7;obtain⟨z0,z1,z2,z3,z4⟩:=zgf hS.b6;obtain⟨f0,f1,f2,f3,f4⟩:=(⟨hS.b6.frozen 0,hS.b6.frozen 1,hS.b6.frozen 2,hS.b6.frozen 3,hS.b6.frozen 4⟩:wr.frozen? ⟨g6,0,none⟩=false/\wr.frozen? ⟨g6,1,none⟩=false/\wr.frozen? ⟨g6,2,none⟩=false/\wr.frozen? ⟨g6,3,none⟩=false/\wr.frozen? ⟨g6,4,none⟩=false);have hE:=((((hS.b6.set_ 0 (zI num)).set_ 1 (zS ⟨#[]⟩)).set_ 2 (zS ⟨#[]⟩)).set_ 3 (zL Ae es.length ce)).set_ 4 (zL none 0 0);have hG:=zrm (zrm (zrm (zrm (zrm (zro wr (some g6)) 0 (zI num)) 1 (zS ⟨#[]⟩)) 2 (zS ⟨#[]⟩)) 3 (zL Ae es.length ce)) 4 (zL none 0 0);have hne:(zL Ae es.length ce).ownBlock≠some g6:=fun e=>by have:=(hS.own.lt g6 e).1;have:=hS.ord;omega
  have HF:Hid (z3x _ (zL Ae es.length ce) es/\WsB w _ U g gw m' D (zL Ar D.length cr) dr cv' l'/\Frm we _ g gw cv cv'):=hd_ ⟨Row.of_own (zl2 hS.own (fun x hx=>hG.block x (hS.own.lt x hx).2 (fun e=>by injection e with e;subst e;exact hne hx))),hS.ws.kg hG (fun q e=>by injection e with e;subst e;exact⟨by have:=hS.ord.1;have:=hS.lo.1;omega,by have:=hS.ord.1;have:=hS.lo.2.1;omega,zky hS.ws.cnk hS.b6 (by decide),fun e2=>by have:=hS.lo.2.2 _ e2;have:=hS.ord.1;omega⟩),hS.frm.kg hG (fun q e=>by injection e with e;have:=hS.ord.1;omega)⟩
  have HE:=hd_ hE;have HK:=hd_ (Zi hm' (Zi hl' hEK));clear HI hm' hl' hEK hS hE hG hne;go_wp2_with fail;have hE:=HE.out;have hF:=HF.out;generalize ((((wr.setCell ⟨g6,0,none⟩ (zI num)).setCell ⟨g6,1,none⟩ (zS ⟨#[]⟩)).setCell ⟨g6,2,none⟩ (zS ⟨#[]⟩)).setCell ⟨g6,3,none⟩ (zL Ae es.length ce)).setCell ⟨g6,4,none⟩ (zL none 0 0)=W8 at hE hF |-;obtain⟨e0,e1,e2,e3,e4⟩:=zgf hE;exact bodyPost_ret (v:=.agg #[zI num,zS ⟨#[]⟩,zS ⟨#[]⟩,(zL Ae es.length ce),zL none 0 0]) (by simp [results,results36,go_sem,e0,e1,e2,e3,e4]) rfl ⟨zL Ae es.length ce,es,cv',l',rfl,hF.1,HK.2.2,hF.2.1.mono (by have:=HK.out.1;omega),HK.2.1,hF.2.2⟩
