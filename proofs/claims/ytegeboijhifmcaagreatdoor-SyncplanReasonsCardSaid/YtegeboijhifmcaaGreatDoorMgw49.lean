/- A part of the proof. -/
import Derived.Test.YtegeboijhifmcaaGreatDoorMzSaQ
import Derived.Test.YtegeboijhifmcaaGreatDoorMgw43
set_option linter.unusedVariables false
set_option linter.unusedSimpArgs false
set_option maxHeartbeats 16000000
set_option maxRecDepth 100000
namespace Go.Proofs.YtegeboijhifmcaaGreatDoor
open Go.Proofs.Tryz
open Go.RowKit
open Go.Sort (grow)
section
variable {u0 u1 u2 u3 u4 u5 u6 u7 u8 u9 gn gt gu gx gy gz gA gC gD gE gF gG gH gI gJ gK gL gM gN gO gP gQ gR gT gV gW gX gY gZ i6 i7 i8 ia ib ic ie ig ii ij ik il im io ip iq ir iu iv iw ix iy iz iA iB iC iD iE iF iG iH iI iJ iK iL iM iN iO iP iQ iR iS iT iU iV iW iX iY iZ j0 j1 j2 j5 j6 j7 j8 j9 jb jd je jf bw bz bA bB bD bE bF bG bH bI bJ bK bL bM bN bO bP bQ bT bU bV bW bX bY bZ ca cj ck cn cx cy cz cA cB cD cE cG cH cI cJ cM cN cO cP cQ cT cU cW cZ da db dc dd de df dg dh di dj dm du dw dz dA dB dC dD dE dF dG dH dI dJ : Value}
theorem rsR9 (ops:Array Oper)(hops:Tryz.f8.body.bind (zci 9)=some ops)(Q:Exit→Act→World→Prop)(V:World)(g3 n c k:Nat)(ad:Addr)(x:Syn)(op:List ByteArray)(Ao:Option Addr)(co:Nat)
  (hx:z50 V (ad.add (k * 5)) x) (h5:V.cell? ⟨g3,5,none⟩=some (.slice Ao op.length co)) (hk:k<n) (ho:Strs V (.slice Ao op.length co) op) (hol:op.length≤1000) (hn:x.kind=6→x.path∈op)
  (hQ:∀(fp fq ft fu fv fw fx fy fA fB fC fD fE fF fG fH:Value) (w':World),Below V.heap.size V w'→Q .normal ⟨#[u0,u1,u2,.pointer (some ⟨g3,0,none⟩),u4,.slice (some ad) n c,u6,u7,u8,.int .i64 k,gn,gt,gu,gx,gy,gz,gA,gC,gD,gE,gF,gG,gH,gI,gJ,gK,gL,gM,gN,gO,gP,gQ,gR,gT,gV,gW,gX,gY,gZ,i6,i7,i8,ia,ib,ic,ie,ig,ii,ij,ik,il,im,io,ip,iq,ir,iu,iv,fp,fq,ft,fu,fv,fw,fx,fy,fA,fB,fC,fD,fE,fF,fG,fH,.bool false,iN,iO,iP,iQ,iR,iS,iT,iU,iV,iW,iX,iY,iZ,j0,j1,j2,j5,j6,j7,j8,j9,jb,jd,je,jf,bw,bz,bA,bB,bD,bE,bF,bG,bH,bI,bJ,bK,bL,bM,bN,bO,bP,bQ,bT,bU,bV,bW,bX,bY,bZ,ca,cj,ck,cn,cx,cy,cz,cA,cB,cD,cE,cG,cH,cI,cJ,cM,cN,cO,cP,cQ,cT,cU,cW,cZ,da,db,dc,dd,de,df,dg,dh,di,dj,dm,du,dw,dz,dA,dB,dC,dD,dE,dF,dG,dH,dI,dJ],[]⟩ w'):
  (Code.region 9 ops true).wp prog Q ⟨#[u0,u1,u2,.pointer (some ⟨g3,0,none⟩),u4,.slice (some ad) n c,u6,u7,u8,.int .i64 k,gn,gt,gu,gx,gy,gz,gA,gC,gD,gE,gF,gG,gH,gI,gJ,gK,gL,gM,gN,gO,gP,gQ,gR,gT,gV,gW,gX,gY,gZ,i6,i7,i8,ia,ib,ic,ie,ig,ii,ij,ik,il,im,io,ip,iq,ir,iu,iv,iw,ix,iy,iz,iA,iB,iC,iD,iE,iF,iG,iH,iI,iJ,iK,iL,iM,iN,iO,iP,iQ,iR,iS,iT,iU,iV,iW,iX,iY,iZ,j0,j1,j2,j5,j6,j7,j8,j9,jb,jd,je,jf,bw,bz,bA,bB,bD,bE,bF,bG,bH,bI,bJ,bK,bL,bM,bN,bO,bP,bQ,bT,bU,bV,bW,bX,bY,bZ,ca,cj,ck,cn,cx,cy,cz,cA,cB,cD,cE,cG,cH,cI,cJ,cM,cN,cO,cP,cQ,cT,cU,cW,cZ,da,db,dc,dd,de,df,dg,dh,di,dj,dm,du,dw,dz,dA,dB,dC,dD,dE,dF,dG,dH,dI,dJ],[]⟩ V:=by
 simp only[Tryz.f8,Option.bind_some,zci] at hops
 simp at hops
 subst hops;have HQ:=hd_ hQ;have HO:=hd_ (fun d os=>ho.below (below_regrown V d os));obtain⟨s0,s1,s2,s3,s4⟩:=hx;have m1:=cell_regrown s1;have b5:=cell_regrown h5;have hz:(k:Int)<(n:Int):=by omega
 clear hQ ho s1 s2 s3 s4 h5;by_cases h6:x.kind=6
 ·have cO:∀ d os,Calls prog 22 #[.slice Ao op.length co,.string x.path] (grow (redrawn V d) os) fun e w''=>e=.returned (.bool true)∧∃ p:Regrown,w''=grow (redrawn V p.d) p.os:=fun d os=>Calls.regrown_of (by
   have h:=zqc op _ x.path _ (HO.out d os) (by omega)
   rw[decide_eq_true (hn h6)] at h;exact h)
  rw[h6] at s0;have m0:=cell_regrown s0;clear h6 hn s0;refine wp_region_quiet_below (by kernel_rfl) (by kernel_rfl) ?_
  repeat (first | go_big_quiet_step (with_reducible exact cO _ _) | quiet_step (with_reducible exact cO _ _))
  refine wpQuiet_nil ?_;intro _ hw9;obtain⟨⟨dq,osq⟩,hw9⟩:=hw9;subst hw9;exact HQ.out _ _ _ _ _ _ _ _ _ _ _ _ _ _ _ _ _ (below_regrown V dq osq)
 ·have q1:(x.kind == 6)=false:=beq_eq_false_iff_ne.2 h6;have m0:=cell_regrown s0;clear h6 hn s0;refine wp_region_quiet_below (by kernel_rfl) (by kernel_rfl) ?_
  repeat (first | go_big_quiet_step (fail) | quiet_step (fail))
  refine wpQuiet_nil ?_;intro _ hw9;obtain⟨⟨dq,osq⟩,hw9⟩:=hw9;subst hw9;exact HQ.out _ _ _ _ _ _ _ _ _ _ _ _ _ _ _ _ _ (below_regrown V dq osq)
def zr5 (s:ByteArray)(l:List ByteArray):Bool:=!decide (s=z2l) && decide (s∈l)
theorem dir_cs (s:ByteArray)(l:List ByteArray):(zr5 s l=false∧s.toList=[]∧(s.toList == (⟨#[]⟩:ByteArray).toList)=true∧True)∨(zr5 s l=true∧¬ s.toList=[]∧s.toList.isEmpty=false∧decide (s∈l)=true)∨zr5 s l=false∧¬ s.toList=[]∧s.toList.isEmpty=false∧decide (s∈l)=false:=by
 unfold zr5;rcases zqi s with⟨e,p1,p2⟩ | ⟨e,p1,p2⟩
 ·exact .inl ⟨by rw[decide_eq_true e];rfl,p1,p2,trivial⟩
 ·cases hd:decide (s∈l) with
  | true=>exact .inr (.inl ⟨by rw[decide_eq_false e];rfl,p1,p2,rfl⟩)
  | false=>exact .inr (.inr ⟨by rw[decide_eq_false e];rfl,p1,p2,rfl⟩)
theorem zr6 {s:ByteArray}{l:List ByteArray}(h:s≠z2l∧s∈l):zr5 s l=true:=by
 unfold zr5;rw[decide_eq_false h.1,decide_eq_true h.2];rfl
theorem rsR12 (ops:Array Oper)(hops:Tryz.f8.body.bind (zci 12)=some ops)(Q:Exit→Act→World→Prop)(V:World)(g3 n c k:Nat)(ad:Addr)(x:Syn)(dt:List ByteArray)(At:Option Addr)(ct:Nat)
  (hx:z50 V (ad.add (k * 5)) x) (h6:V.cell? ⟨g3,6,none⟩=some (.slice At dt.length ct)) (hk:k<n) (hd:Strs V (.slice At dt.length ct) dt) (hdl:dt.length≤1000)
  (hQ:∀(fP fQ fR fS fT fU fV fW fX fY fZ ga gb gf gg gh gi gj gm aa jg ab ac af ag ah ai aj ak al am ao ap aq:Value) (w':World),Below V.heap.size V w'→Q .normal ⟨#[u0,u1,u2,.pointer (some ⟨g3,0,none⟩),u4,.slice (some ad) n c,u6,u7,u8,.int .i64 k,.bool (zr5 x.frm dt || zr5 x.dst dt),gt,gu,gx,gy,gz,gA,gC,gD,gE,gF,gG,gH,gI,gJ,gK,gL,gM,gN,gO,gP,gQ,gR,gT,gV,gW,gX,gY,gZ,i6,i7,i8,ia,ib,ic,ie,ig,ii,ij,ik,il,im,io,ip,iq,ir,iu,iv,iw,ix,iy,iz,iA,iB,iC,iD,iE,iF,iG,iH,iI,iJ,iK,iL,iM,iN,iO,iP,iQ,iR,iS,fP,fQ,fR,fS,fT,fU,fV,fW,fX,fY,fZ,ga,gb,gf,gg,gh,gi,gj,gm,aa,jg,ab,ac,af,ag,ah,ai,aj,ak,al,am,ao,ap,aq,bO,bP,bQ,bT,bU,bV,bW,bX,bY,bZ,ca,cj,ck,cn,cx,cy,cz,cA,cB,cD,cE,cG,cH,cI,cJ,cM,cN,cO,cP,cQ,cT,cU,cW,cZ,da,db,dc,dd,de,df,dg,dh,di,dj,dm,du,dw,dz,dA,dB,dC,dD,dE,dF,dG,dH,dI,dJ],[]⟩ w'):
  (Code.region 12 ops true).wp prog Q ⟨#[u0,u1,u2,.pointer (some ⟨g3,0,none⟩),u4,.slice (some ad) n c,u6,u7,u8,.int .i64 k,gn,gt,gu,gx,gy,gz,gA,gC,gD,gE,gF,gG,gH,gI,gJ,gK,gL,gM,gN,gO,gP,gQ,gR,gT,gV,gW,gX,gY,gZ,i6,i7,i8,ia,ib,ic,ie,ig,ii,ij,ik,il,im,io,ip,iq,ir,iu,iv,iw,ix,iy,iz,iA,iB,iC,iD,iE,iF,iG,iH,iI,iJ,iK,iL,iM,iN,iO,iP,iQ,iR,iS,iT,iU,iV,iW,iX,iY,iZ,j0,j1,j2,j5,j6,j7,j8,j9,jb,jd,je,jf,bw,bz,bA,bB,bD,bE,bF,bG,bH,bI,bJ,bK,bL,bM,bN,bO,bP,bQ,bT,bU,bV,bW,bX,bY,bZ,ca,cj,ck,cn,cx,cy,cz,cA,cB,cD,cE,cG,cH,cI,cJ,cM,cN,cO,cP,cQ,cT,cU,cW,cZ,da,db,dc,dd,de,df,dg,dh,di,dj,dm,du,dw,dz,dA,dB,dC,dD,dE,dF,dG,dH,dI,dJ],[]⟩ V:=by
 simp only[Tryz.f8,Option.bind_some,zci] at hops
 simp at hops
 subst hops;have HD:=hd_ (fun d os=>hd.below (below_regrown V d os));obtain⟨s0,s1,s2,s3,s4⟩:=hx;have m3:=cell_regrown s3;have m4:=cell_regrown s4;have b6:=cell_regrown h6;have hz:(k:Int)<(n:Int):=by omega
 clear hd s0 s1 s2 s3 s4 h6;rcases dir_cs x.frm dt with⟨e1,p1,p2,d1⟩ | ⟨e1,p1,p2,d1⟩ | ⟨e1,p1,p2,d1⟩ <;> rcases dir_cs x.dst dt with⟨e2,q1,q2,d2⟩ | ⟨e2,q1,q2,d2⟩ | ⟨e2,q1,q2,d2⟩
 all_goals
  rw[e1,e2] at hQ;have HQ:=hd_ hQ;have cF:∀ d os,Calls prog 22 #[.slice At dt.length ct,.string x.frm] (grow (redrawn V d) os) fun e w''=>e=.returned (.bool (decide (x.frm∈dt)))∧∃ p:Regrown,w''=grow (redrawn V p.d) p.os:=fun d os=>Calls.regrown_of (zqc dt _ x.frm _ (HD.out d os) (by omega))
  have cT:∀ d os,Calls prog 22 #[.slice At dt.length ct,.string x.dst] (grow (redrawn V d) os) fun e w''=>e=.returned (.bool (decide (x.dst∈dt)))∧∃ p:Regrown,w''=grow (redrawn V p.d) p.os:=fun d os=>Calls.regrown_of (zqc dt _ x.dst _ (HD.out d os) (by omega))
  (try rw[d1] at cF)
  (try rw[d2] at cT)
  clear e1 e2 d1 d2 hQ;refine wp_region_quiet_below (by kernel_rfl) (by kernel_rfl) ?_
  repeat (first | go_big_quiet_step (first | with_reducible exact cF _ _ | with_reducible exact cT _ _) | quiet_step (first | with_reducible exact cF _ _ | with_reducible exact cT _ _))
  refine wpQuiet_nil ?_;intro _ hw9;obtain⟨⟨dq,osq⟩,hw9⟩:=hw9;subst hw9;exact HQ.out _ _ _ _ _ _ _ _ _ _ _ _ _ _ _ _ _ _ _ _ _ _ _ _ _ _ _ _ _ _ _ _ _ _ _ (below_regrown V dq osq)
theorem rsR16 (ops:Array Oper)(hops:Tryz.f8.body.bind (zci 16)=some ops)(Q:Exit→Act→World→Prop)(V:World)(g3 j n7 c7 n ch:Nat)(a7:Addr)(Ah:Option Addr)(q:ByteArray)(v:Hav)(bo:Bool)
  (hC:∀ w',Below V.heap.size V w'→w'.cell? ⟨g3,4,none⟩=some (.slice Ah n ch)∧w'.cell? (a7.add (j * 3))=some (.string q)) (hk:(j:Int)<(n7:Int))
  (hL:∀ X,Below V.heap.size V X→Calls prog 16 #[.slice Ah n ch,.string q] X fun e w'=>e=.returned (.tuple #[.agg #[.string v.path,.int .i64 v.num,.string v.loc],.bool bo])∧Below X.heap.size X w')
  (hQ:∀(aE jh ji aF aG aH aI aJ aK aL aM:Value) (g:Nat) (w':World),Blk w' g 44 [.string v.path,.int .i64 v.num,.string v.loc]→Below V.heap.size V w'→Q .normal ⟨#[u0,u1,u2,.pointer (some ⟨g3,0,none⟩),u4,u5,u6,.slice (some a7) n7 c7,u8,u9,gn,.int .i64 j,.pointer (some ⟨g,0,none⟩),.bool bo,gy,gz,gA,gC,gD,gE,gF,gG,gH,gI,gJ,gK,gL,gM,gN,gO,gP,gQ,gR,gT,gV,gW,gX,gY,gZ,i6,i7,i8,ia,ib,ic,ie,ig,ii,ij,ik,il,im,io,ip,iq,ir,iu,iv,iw,ix,iy,iz,iA,iB,iC,iD,iE,iF,iG,iH,iI,iJ,iK,iL,iM,iN,iO,iP,iQ,iR,iS,iT,iU,iV,iW,iX,iY,iZ,j0,j1,j2,j5,j6,j7,j8,j9,jb,jd,je,jf,bw,bz,bA,bB,bD,bE,bF,bG,bH,bI,bJ,bK,bL,bM,bN,bO,bP,bQ,bT,bU,bV,bW,bX,bY,bZ,aE,jh,ji,aF,aG,aH,aI,aJ,aK,aL,aM,cG,cH,cI,cJ,cM,cN,cO,cP,cQ,cT,cU,cW,cZ,da,db,dc,dd,de,df,dg,dh,di,dj,dm,du,dw,dz,dA,dB,dC,dD,dE,dF,dG,dH,dI,dJ],[]⟩ w'):
  (Code.region 16 ops true).wp prog Q ⟨#[u0,u1,u2,.pointer (some ⟨g3,0,none⟩),u4,u5,u6,.slice (some a7) n7 c7,u8,u9,gn,.int .i64 j,gu,gx,gy,gz,gA,gC,gD,gE,gF,gG,gH,gI,gJ,gK,gL,gM,gN,gO,gP,gQ,gR,gT,gV,gW,gX,gY,gZ,i6,i7,i8,ia,ib,ic,ie,ig,ii,ij,ik,il,im,io,ip,iq,ir,iu,iv,iw,ix,iy,iz,iA,iB,iC,iD,iE,iF,iG,iH,iI,iJ,iK,iL,iM,iN,iO,iP,iQ,iR,iS,iT,iU,iV,iW,iX,iY,iZ,j0,j1,j2,j5,j6,j7,j8,j9,jb,jd,je,jf,bw,bz,bA,bB,bD,bE,bF,bG,bH,bI,bJ,bK,bL,bM,bN,bO,bP,bQ,bT,bU,bV,bW,bX,bY,bZ,ca,cj,ck,cn,cx,cy,cz,cA,cB,cD,cE,cG,cH,cI,cJ,cM,cN,cO,cP,cQ,cT,cU,cW,cZ,da,db,dc,dd,de,df,dg,dh,di,dj,dm,du,dw,dz,dA,dB,dC,dD,dE,dF,dG,dH,dI,dJ],[]⟩ V:=by
 simp only[Tryz.f8,Option.bind_some,zci] at hops
 simp at hops
 subst hops;have HQ:=hd_ hQ;have HLZ:=hd_ hL;have hVA:Below V.heap.size V (V.alloc (.cells #[.string ⟨#[]⟩,.int .i64 0,.string ⟨#[]⟩] 44)).drew:=((Below.refl _ _).alloc (Nat.le_refl _) _).drew;obtain⟨x0,x1⟩:=hC V (Below.refl _ _);obtain⟨y0,y1⟩:=hC _ hVA;clear hVA hC hQ hL;refine wp_region_noPanic ?_;go_region_law (first
  | (go_simp;go_at_call 16;refine (HLZ.out _ (by repeat (first | exact Below.refl _ _ | refine Below.drew ?_ | refine zcf ?_ _))).mono ?_;rintro e w8 ⟨rfl,hX8⟩;have hS8:Below V.heap.size V w8:=(by repeat (first | exact Below.refl _ _ | refine Below.drew ?_ | refine zcf ?_ _):Below V.heap.size V _).trans (hX8.mono (by simp));(try (have hblk:=Blk.below (Blk.drew' (z0l V [.string ⟨#[]⟩,.int .i64 0,.string ⟨#[]⟩] 44)) hX8 (by simp);have p0:w8.cell? ⟨V.heap.size,0,none⟩=some (.string ⟨#[]⟩):=hblk.cell 0;have p1:w8.cell? ⟨V.heap.size,1,none⟩=some (.int .i64 0):=hblk.cell 1;have p2:w8.cell? ⟨V.heap.size,2,none⟩=some (.string ⟨#[]⟩):=hblk.cell 2;have r0:w8.frozen? ⟨V.heap.size,0,none⟩=false:=hblk.frozen 0;have r1:w8.frozen? ⟨V.heap.size,1,none⟩=false:=hblk.frozen 1;have r2:w8.frozen? ⟨V.heap.size,2,none⟩=false:=hblk.frozen 2))))
 all_goals refine NoPanic.normal ?_
 all_goals first
  | exact HQ.out _ _ _ _ _ _ _ _ _ _ _ _ _ (setH hblk v) (belowH hS8 (Nat.le_refl _) v)
  | exact HQ.out _ _ _ _ _ _ _ _ _ _ _ _ _ (z0l w8 [.string v.path,.int .i64 v.num,.string v.loc] 44) (hS8.alloc hS8.size _)
theorem rsR17 (ops:Array Oper)(hops:Tryz.f8.body.bind (zci 17)=some ops)(Q:Exit→Act→World→Prop)(V:World)(n c k n7 c7 j g12:Nat)(ad a7:Addr)(x:Syn)(y v:Hav)(bo:Bool)
  (hx:z50 V (ad.add (k * 5)) x) (hy:z4c V (a7.add (j * 3)) y) (h12:Blk V g12 44 [.string v.path,.int .i64 v.num,.string v.loc]) (hk:k<n) (hj:j<n7)
  (hQ:∀(aN aO aP aQ aR aS aT aU aV aW aX aY aZ ba bd bf bg jj jk jl jm jn jo jp jq jr js jt ju jv jw jx jy jz jA:Value) (w':World),Below V.heap.size V w'→Q .normal ⟨#[u0,u1,u2,u3,u4,.slice (some ad) n c,u6,.slice (some a7) n7 c7,u8,.int .i64 k,.bool (decide (y.loc=x.dst) && (!decide (y.path=x.path)) && bo && decide (v=y)),.int .i64 j,.pointer (some ⟨g12,0,none⟩),.bool bo,gy,gz,gA,gC,gD,gE,gF,gG,gH,gI,gJ,gK,gL,gM,gN,gO,gP,gQ,gR,gT,gV,gW,gX,gY,gZ,i6,i7,i8,ia,ib,ic,ie,ig,ii,ij,ik,il,im,io,ip,iq,ir,iu,iv,iw,ix,iy,iz,iA,iB,iC,iD,iE,iF,iG,iH,iI,iJ,iK,iL,iM,iN,iO,iP,iQ,iR,iS,iT,iU,iV,iW,iX,iY,iZ,j0,j1,j2,j5,j6,j7,j8,j9,jb,jd,je,jf,bw,bz,bA,bB,bD,bE,bF,bG,bH,bI,bJ,bK,bL,bM,bN,bO,bP,bQ,bT,bU,bV,bW,bX,bY,bZ,ca,cj,ck,cn,cx,cy,cz,cA,cB,cD,cE,aN,aO,aP,aQ,aR,aS,aT,aU,aV,aW,aX,aY,aZ,ba,bd,bf,bg,jj,jk,jl,jm,jn,jo,jp,jq,jr,js,jt,ju,jv,jw,jx,jy,jz,jA,dI,dJ],[]⟩ w'):
  (Code.region 17 ops true).wp prog Q ⟨#[u0,u1,u2,u3,u4,.slice (some ad) n c,u6,.slice (some a7) n7 c7,u8,.int .i64 k,gn,.int .i64 j,.pointer (some ⟨g12,0,none⟩),.bool bo,gy,gz,gA,gC,gD,gE,gF,gG,gH,gI,gJ,gK,gL,gM,gN,gO,gP,gQ,gR,gT,gV,gW,gX,gY,gZ,i6,i7,i8,ia,ib,ic,ie,ig,ii,ij,ik,il,im,io,ip,iq,ir,iu,iv,iw,ix,iy,iz,iA,iB,iC,iD,iE,iF,iG,iH,iI,iJ,iK,iL,iM,iN,iO,iP,iQ,iR,iS,iT,iU,iV,iW,iX,iY,iZ,j0,j1,j2,j5,j6,j7,j8,j9,jb,jd,je,jf,bw,bz,bA,bB,bD,bE,bF,bG,bH,bI,bJ,bK,bL,bM,bN,bO,bP,bQ,bT,bU,bV,bW,bX,bY,bZ,ca,cj,ck,cn,cx,cy,cz,cA,cB,cD,cE,cG,cH,cI,cJ,cM,cN,cO,cP,cQ,cT,cU,cW,cZ,da,db,dc,dd,de,df,dg,dh,di,dj,dm,du,dw,dz,dA,dB,dC,dD,dE,dF,dG,dH,dI,dJ],[]⟩ V:=by
 simp only[Tryz.f8,Option.bind_some,zci] at hops
 simp at hops
 subst hops;obtain⟨s0,s1,s2,s3,s4⟩:=hx;obtain⟨r0,r1,r2⟩:=hy;obtain⟨z0,z1,z2⟩:=z3s h12;have m1:=cell_regrown s1;have m4:=cell_regrown s4;have b0:=cell_regrown r0;have b1:=cell_regrown r1;have b2:=cell_regrown r2;have e0:=cell_regrown z0;have e1:=cell_regrown z1;have e2:=cell_regrown z2;have heq:=fun W=>ziq v y W;have hz:(k:Int)<(n:Int):=by omega
 have hz7:(j:Int)<(n7:Int):=by omega
 have q1:(y.loc.toList == x.dst.toList)=decide (y.loc=x.dst):=z3x _ _;have q2:(y.path.toList == x.path.toList)=decide (y.path=x.path):=z3x _ _;generalize decide (y.loc=x.dst)=c1 at q1 hQ;generalize decide (y.path=x.path)=c2 at q2 hQ;generalize decide (v=y)=c3 at heq hQ;have HQ:=hd_ hQ;clear s0 s1 s2 s3 s4 r0 r1 r2 z0 z1 z2 hQ h12;cases c1
 ·refine wp_region_quiet_below (by kernel_rfl) (by kernel_rfl) ?_
  repeat (first | go_big_quiet_step (fail) | quiet_step (fail))
  refine wpQuiet_nil ?_;intro _ hw9;obtain⟨⟨dq,osq⟩,hw9⟩:=hw9;subst hw9;exact HQ.out _ _ _ _ _ _ _ _ _ _ _ _ _ _ _ _ _ _ _ _ _ _ _ _ _ _ _ _ _ _ _ _ _ _ _ _ (below_regrown V dq osq)
 cases c2 <;> cases bo
 all_goals
  refine wp_region_quiet_below (by kernel_rfl) (by kernel_rfl) ?_
  repeat (first | go_big_quiet_step (fail) | quiet_step (fail))
  refine wpQuiet_nil ?_;intro _ hw9;obtain⟨⟨dq,osq⟩,hw9⟩:=hw9;subst hw9;exact HQ.out _ _ _ _ _ _ _ _ _ _ _ _ _ _ _ _ _ _ _ _ _ _ _ _ _ _ _ _ _ _ _ _ _ _ _ _ (below_regrown V dq osq)
end
theorem zr7 (L:List Int)(A:Option Addr)(c:Nat)(w:World)(he:Env w)(hL:Row w 1 (.slice A L.length c) L.length (L.map fun(n:Int)=>.int .i64 n))(hA:∀ ad,A=some ad→ad.block<w.heap.size):
  Calls prog 8 #[.slice A L.length c] w fun e w'=>e=.returned (.bool true)∧Below w.heap.size w w':=by
 have HMD:=hd_ (zpo L A c w he hL hA);have HKN:=hd_ (fun X (hX:Env X)=>zne X hX);clear he hL hA;go_enter func8,ntmps8;go_wp2_with fail;refine HMD.out.mono ?_;rintro e w1 ⟨dv,dr,mv,hv,ov,tv,U,g,D,k,es,ch,hs,op,dt,rfl,hsc,hat,-,-,-,hb1,hen,Aq,cq,rfl⟩;dsimp only;obtain⟨Ad,cd,rfl,-⟩:=id hat.revs;obtain⟨Am,cm,rfl,-⟩:=id hat.ents.1;obtain⟨Ah,chh,rfl,-⟩:=id hat.havs;obtain⟨Ao,co,rfl,-⟩:=id hat.opn;obtain⟨At,ct,rfl,-⟩:=id hat.drt;have HS:=hd_ (zqe (dr:=.slice Aq 0 cq) hsc hat hen);clear HMD hsc hat hen;go_upto_region 2 with fail;have HB2:=hd_ (zcf hb1 (.cells #[.slice Ad D.length cd,.slice Aq 0 cq,.slice Am es.length cm,.int .i64 ch,.slice Ah hs.length chh,.slice Ao op.length co,.slice At dt.length ct] 31));have HS2:=hd_ (HS.out.under ((Below.refl w1.heap.size w1).alloc (Nat.le_refl _) (.cells #[.slice Ad D.length cd,.slice Aq 0 cq,.slice Am es.length cm,.int .i64 ch,.slice Ah hs.length chh,.slice Ao op.length co,.slice At dt.length ct] 31)));have HX2:=hd_ (z0l w1 [.slice Ad D.length cd,.slice Aq 0 cq,.slice Am es.length cm,.int .i64 ch,.slice Ah hs.length chh,.slice Ao op.length co,.slice At dt.length ct] 31);clear HS hb1;generalize w1.alloc (.cells #[.slice Ad D.length cd,.slice Aq 0 cq,.slice Am es.length cm,.int .i64 ch,.slice Ah hs.length chh,.slice Ao op.length co,.slice At dt.length ct] 31)=W2 at HB2 HS2 HX2 ⊢;generalize w1.heap.size=g3 at HX2 ⊢;obtain⟨x0,x1,x2,x3,x4,x5,x6⟩:=zqf HX2.out;have HPL:=hd_ (HS2.out.plan ch hs op dt (.slice Ah hs.length chh) (.slice Ao op.length co) (.slice At dt.length ct) HS2.out.hv HS2.out.hl HS2.out.at_.havs HS2.out.at_.opn HS2.out.at_.drt HS2.out.opl HS2.out.dtl);go_wp2_with fail;refine HPL.out.mono ?_;rintro e w3 ⟨pv,rfl,hp,hb3⟩;dsimp only;obtain⟨Ap,cp,rfl,-⟩:=id hp;have HB3:=hd_ (z0r HB2.out hb3);have HS3:=hd_ (HS2.out.under hb3);have HX3:=hd_ (HX2.out.below hb3 HX2.out.lt);have HP3:=hd_ hp;clear hb3 HB2 HS2 HX2 HPL hp x0 x1 x2 x3 x4 x5 x6;obtain⟨x0,x1,x2,x3,x4,x5,x6⟩:=zqf HX3.out;have HRS:=hd_ (zn4 HS3.out.hv HS3.out.wok (by have:=HS3.out.hl;omega) HS3.out.wl HS3.out.at_.havs HP3.out)
 go_wp2_with fail;refine HRS.out.mono ?_;rintro e w4 ⟨rv,rfl,hr,hb4⟩;dsimp only;obtain⟨Ar,cr,rfl,-⟩:=id hr;have HB4:=hd_ (z0r HB3.out hb4);have HS4:=hd_ (HS3.out.under hb4);have HX4:=hd_ (HX3.out.below hb4 HX3.out.lt);have HP4:=hd_ (HP3.out.below hb4);have HR4:=hd_ hr;clear hb4 HB3 HS3 HX3 HRS HP3 hr x0 x1 x2 x3 x4 x5 x6;have HKW:=hd_ (HKN.out _ HS4.out.env);obtain⟨x0,x1,x2,x3,x4,x5,x6⟩:=zqf HX4.out;go_wp2_with fail;refine HKW.out.mono ?_;rintro e w5 ⟨rfl,hb5⟩;dsimp only;have HB5:=hd_ (z0r HB4.out hb5);have HS5:=hd_ (HS4.out.under hb5);have HX5:=hd_ (HX4.out.below hb5 HX4.out.lt);have HP5:=hd_ (HP4.out.below hb5);have HR5:=hd_ (HR4.out.below hb5);clear hb5 HB4 HS4 HX4 HKW HP4 HR4 x0 x1 x2 x3 x4 x5 x6 HKN;have HL:Hid (∀ x∈zf9 hs (zfk D (zdt es) ch) op dt,(x.kind=6→x.path∈op)∧(x.kind=5→(zr5 x.frm dt || zr5 x.dst dt)=true∨∃ a∈z4y hs (zf9 hs (zfk D (zdt es) ch) op dt),a.loc=x.dst∧a.path≠x.path∧z6d hs a.path=some a)):=hd_ fun x hx=>by
  obtain⟨h1,h2⟩:=zqo HS5.out.hv HS5.out.wok hx;refine⟨h1,fun h5=>?_⟩;rcases h2 h5 with (h3 | h3) | h3
  ·exact .inl (by rw[zr6 h3];rfl)
  ·exact .inl (by rw[zr6 h3,Bool.or_true])
  ·exact .inr h3
 have HPN:Hid ((zf9 hs (zfk D (zdt es) ch) op dt).length≤1000):=hd_ (Nat.le_trans zn0 (by have:=HS5.out.hl;have:=HS5.out.wl (m:=ch);omega))
 have HRN:Hid ((z4y hs (zf9 hs (zfk D (zdt es) ch) op dt)).length≤1000):=hd_ (zpp HS5.out.hl HS5.out.wl);generalize z4y hs (zf9 hs (zfk D (zdt es) ch) op dt)=re at HL HR5 HRN ⊢;generalize zf9 hs (zfk D (zdt es) ch) op dt=pl at HL HP5 HPN ⊢;have hpn:=HPN.out;have hrn:=HRN.out;go_wp2_with fail;go_loopw [9,10,11] (fun i _ _ wr=>∃ k:Nat,i=.int .i64 k∧k≤pl.length∧Hid (Below w5.heap.size w5 wr)) (fun i _ _ _=>pl.length - (intOf i).toNat)
 case atStart=>exact⟨0,rfl,Nat.zero_le _,Below.refl _ _⟩
 case round =>
  obtain⟨k,rfl,hk,HI⟩:=hrel;by_cases hlt:k<pl.length
  ·obtain⟨ad,rfl,hab,hx⟩:=z4z.at_ (HP5.out.below HI.out) hlt;have HLX:=hd_ (HL.out pl[k] (List.getElem_mem hlt));have hz:(k:Int)<(pl.length:Int):=by omega
   generalize pl[k]=x at hx HLX;have HX9:=hd_ hx;clear hab hx;go_upto_region 9 with fail;refine rsR9 _ (by kernel_rfl) _ wr g3 pl.length cp k ad x op Ao co HX9.out ((HX5.out.below HI.out HX5.out.lt).cell 5) hlt (HS5.out.under HI.out).at_.opn HS5.out.opl HLX.out.1 ?_
   intro fp fq ft fu fv fw fx fy fA fB fC fD fE fF fG fH v1 hv1;have HB1:=hd_ (HI.out.trans (hv1.mono HI.out.size));have HX1:=hd_ (zqh HX9.out (z50.lt HX9.out) hv1);clear hv1 HX9;obtain⟨x0,x1,x2,x3,x4⟩:=HX1.out;by_cases h5:x.kind=5
   ·have q5:(x.kind != 5)=false:=by rw[h5];rfl
    have HL5:=hd_ (HLX.out.2 h5);clear h5 HLX;go_upto_region 12 with fail;clear x0 x1 x2 x3 x4 q5;refine rsR12 _ (by kernel_rfl) _ v1 g3 pl.length cp k ad x dt At ct HX1.out ((HX5.out.below HB1.out HX5.out.lt).cell 6) hlt (HS5.out.under HB1.out).at_.drt HS5.out.dtl ?_
    intro fP fQ fR fS fT fU fV fW fX fY fZ ga gb gf gg gh gi gj gm aa jg ab ac af ag ah ai aj ak al am ao ap aq v2 hv2;have HB2:=hd_ (HB1.out.trans (hv2.mono HB1.out.size));have HX2:=hd_ (zqh HX1.out (z50.lt HX1.out) hv2);clear hv2 HX1 HB1;generalize (zr5 x.frm dt || zr5 x.dst dt)=db at HL5 ⊢;go_wp2_with fail;go_loopw [10,11] (fun r i wr=>∃(j:Nat) (rb:Bool),r=.bool rb∧i=.int .i64 j∧j≤re.length∧Hid (Below w5.heap.size w5 wr∧z50 wr (ad.add (k * 5)) x∧(rb=true∨∃ a∈re.drop j,a.loc=x.dst∧a.path≠x.path∧z6d hs a.path=some a))) (fun _ i _=>re.length - (intOf i).toNat)
    case atStart=>exact⟨0,db,rfl,rfl,Nat.zero_le _,HB2.out,HX2.out,HL5.out⟩
    case round =>
     obtain⟨j,rb,rfl,rfl,hj,HJ⟩:=hrel;by_cases hlj:j<re.length
     ·cases rb with
      | true =>
       have hz7:(j:Int)<(re.length:Int):=by omega
       have HB3:=hd_ HJ.out.1;clear HJ;go_wp2_with fail;go_roundw
       case rel=>exact⟨k+1,by go_num,by omega,HB3⟩
       case measure=>simp [intOf];omega
      | false =>
       obtain⟨a7,rfl,hab7,hy⟩:=z4b.at_ (HR5.out.below HJ.out.1) hlj;have HWT:Hid ((re[j].loc=x.dst∧re[j].path≠x.path∧z6d hs re[j].path=some re[j])∨∃ a∈re.drop (j+1),a.loc=x.dst∧a.path≠x.path∧z6d hs a.path=some a):=hd_ (by
        rcases HJ.out.2.2 with h | ⟨a,ha,hw⟩
        ·cases h
        ·rw[← List.getElem_cons_drop hlj] at ha;rcases List.mem_cons.1 ha with rfl | ha
         ·exact .inl hw
         ·exact .inr ⟨a,ha,hw⟩)
       have hz7:(j:Int)<(re.length:Int):=by omega
       have hzd:decide ((j:Int)<(re.length:Int))=true:=by simp;omega
       generalize re[j]=y at hy HWT;have HY7:=hd_ hy;obtain⟨v,hv⟩:∃ v,v=(z6d hs y.path).getD zop:=⟨_,rfl⟩;obtain⟨bo,hbo⟩:∃ b,b=(z6d hs y.path).isSome:=⟨_,rfl⟩;have HG2:Hid (∀ X,Below w5.heap.size w5 X→Calls prog 16 #[.slice Ah hs.length chh,.string y.path] X fun e w'=>e=.returned (.tuple #[.agg #[.string v.path,.int .i64 v.num,.string v.loc],.bool bo])∧Below X.heap.size X w'):=hd_ fun X hX=>by
        have h:=zqt hs (.slice Ah hs.length chh) y.path X (HS5.out.under hX).at_.havs (by have:=HS5.out.hl;omega)
        rw[hv,hbo];exact h
       have HRB:Hid ((decide (y.loc=x.dst) && (!decide (y.path=x.path)) && bo && decide (v=y))=true∨∃ a∈re.drop (j+1),a.loc=x.dst∧a.path≠x.path∧z6d hs a.path=some a):=hd_ (by
        rcases HWT.out with⟨h1,h2,h3⟩ | h
        ·left
         rw[hv,hbo,decide_eq_true h1,decide_eq_false h2,h3];simp
        ·exact .inr h)
       clear hab7 hy hv hbo HWT;go_upto_region 16 with fail;refine rsR16 _ (by kernel_rfl) _ _ g3 j re.length cr hs.length chh a7 Ah y.path v bo (fun X hX=>⟨(HX5.out.below (HJ.out.1.trans (hX.mono HJ.out.1.size)) HX5.out.lt).cell 4,(hX.cell (p:=a7.add (j * 3)) (z03 HY7.out.1)).trans HY7.out.1⟩) hz7 (fun X hX=>HG2.out X (HJ.out.1.trans (hX.mono HJ.out.1.size))) ?_
       intro aE jh ji aF aG aH aI aJ aK aL aM g12 v3 hb12 hv3;have H12:=hd_ hb12;have HB3:=hd_ (HJ.out.1.trans (hv3.mono HJ.out.1.size));have HX3:=hd_ (zqh HJ.out.2.1 (z50.lt HJ.out.2.1) hv3);have HY3:Hid (z4c v3 (a7.add (j * 3)) y):=hd_ (HY7.out.below (z03 HY7.out.1) hv3);clear hb12 hv3 HG2 HJ HY7;go_upto_region 17 with fail;refine rsR17 _ (by kernel_rfl) _ v3 pl.length cp k re.length cr j g12 ad a7 x y v bo HX3.out HY3.out H12.out hlt hlj ?_
       intro aN aO aP aQ aR aS aT aU aV aW aX aY aZ ba bd bf bg jj jk jl jm jn jo jp jq jr js jt ju jv jw jx jy jz jA v4 hv4;have HB4:=hd_ (HB3.out.trans (hv4.mono HB3.out.size));have HX4:=hd_ (zqh HX3.out (z50.lt HX3.out) hv4);clear hv4 HB3 HX3 HY3 H12;generalize (decide (y.loc=x.dst) && (!decide (y.path=x.path)) && bo && decide (v=y))=rb at HRB ⊢;go_wp2_with fail;go_roundw
       case rel=>exact⟨j+1,rb,rfl,by go_num,by omega,HB4.out,HX4.out,HRB.out⟩
       case measure=>simp [intOf];omega
     ·have hz7:¬((j:Int)<(re.length:Int)):=by omega
      have hrb:rb=true:=by
       rcases HJ.out.2.2 with h | ⟨a,ha,-⟩
       ·exact h
       ·rw[List.drop_eq_nil_of_le (by omega)] at ha
        cases ha
      subst hrb;have HB3:=hd_ HJ.out.1;clear HJ;go_wp2_with fail;go_roundw
      case rel=>exact⟨k+1,by go_num,by omega,HB3⟩
      case measure=>simp [intOf];omega
   ·have q5:(x.kind != 5)=true:=by rw[bne,beq_eq_false_iff_ne.2 h5];rfl
    clear h5 HLX;go_wp2_with fail;go_roundw
    case rel=>exact⟨k+1,by go_num,by omega,HB1⟩
    case measure=>simp [intOf];omega
  ·have hz:¬((k:Int)<(pl.length:Int)):=by omega
   have HB1:=hd_ (z0r HB5.out HI.out);clear HI;go_wp2_with fail;go_ret;exact⟨rfl,HB1.out⟩
end Go.Proofs.YtegeboijhifmcaaGreatDoor
/- SyncplanReasons: for every input the statement returns true and leaves its arguments as they were. No conditions. -/
namespace Go.Proofs.YtegeboijhifmcaaGreatDoor.syncplanReasonsRow
open Go.Proofs.Tryz
open Go.ChangeShapes Go.WideShapes Go.ChangeAt Go.RowKit Go.Proofs.YtegeboijhifmcaaGreatDoor.cardBase
open Go.ChangeMaps (open_string shut_string)
theorem contract (H:Type)(enc:TypeId×Value→H)(W:World)(base:Nat)(args:Array Value)(ds gs:List (DataW H))(before:List MemPlace)
  (hval0:∀(j:Nat) t v,Tryz.f8.params[j]? = some t→args[j]? = some v→Value.okWide prog W .any base t v)
  (hW:DataW.Whole enc prog Tryz.f8.params.toList Rows.syncplanReasonsSpec.vars false W args.toList ds gs before) (ts:List TypeId) (hwt:(DataW.weightsEach prog (Tryz.f8.params.toList++ts) (ds++gs)).all (·≤reachBytes)=true) (hsh:W.ShapedOpen prog):
  Calls prog 8 args W fun e W'=>∃ v,e=.returned v∧Rows.syncplanReasonsSpec.post enc prog Tryz.f8 false true false false W args v W':=by
 have he:Env W:=env_of hsh;have hW':=hW;have hval:∀(j:Nat) t v,Tryz.f8.params[j]? = some t→args[j]? = some v→Value.okWide prog W .any base t v:=hval0;obtain⟨p,q,hA0,hV,rfl,hfz,hnd⟩:=hW;have hA:DataW.TrodAll enc prog W 0 (fun _=>true) true Tryz.f8.params.toList args.toList ds p:=hA0;rw[Tryz.params8] at hA hval;obtain⟨v0,vs0,d0,ds0,p0,q0,hargs,rfl,rfl,h0,r0⟩:=trodAll_cons hA;obtain⟨rfl,rfl,rfl⟩:=trodAll_nil r0;obtain rfl:args=#[v0]:=by cases args;simp_all
 obtain⟨rfl,rfl⟩:=trodVars_none hV;have k0:=h0;have lt0:∀ x∈p0,x.block<W.heap.size:=by obtain⟨m,hm⟩:=k0;exact DataW.trod_lt m _ _ _ hm
 obtain⟨l0,A0,c0,rfl,b0,z0⟩:=zps underlying22 underlying3 (by kernel_rfl) (hval 0 22 v0 rfl rfl) h0
 clear hA0 hval0;refine (zr7 l0 A0 c0 W he b0 z0).mono fun e W' ⟨he,bel⟩=>?_;subst he;exact⟨_,rfl,_,_,_,[],_,[],hW',trodAll_mk1 (shut_bool underlying4 _),(trodAll_cons_mk (Below.trod laidOut (by kernel_rfl) (of_decide_eq_true (by kernel_rfl)) k0 bel lt0) trodAll_mk0),rfl,bel.frame _,fun h=>by cases h⟩
theorem laid_met (os:Os):laidMet prog Rows.syncplanReasonsRow.laid ((laidWorld os).forCall (fun _ _=>0) ⟨#[],#[.slice none 0 0],[]⟩).memory:=
 laidMet_of_run' 8 (by kernel_rfl) (by kernel_rfl)
theorem reads (os:Os){H:Type}(enc:TypeId×Value→H):∃ places,DataW.whole enc prog ((laidWorld os).forCall (fun _ _=>0) ⟨#[],#[.slice none 0 0],[]⟩).memory Tryz.f8.params.toList Rows.syncplanReasonsSpec.vars false (#[.slice none 0 0]:Array Value).toList 8=some ([.nil],[],places):=
 ⟨[],by kernel_rfl⟩
theorem lifted (os:Os)(started:os.Started)(H:Type)(enc:TypeId×Value→H)(F:Stop.Interp):
  ReturnsInHanded {} Tryz.checked os 8 .any ((OpenSpec.ofChange Rows.syncplanReasonsSpec).preRow enc prog Tryz.f8 Rows.syncplanReasonsRow.domain false Rows.syncplanReasonsRow.laid) (((OpenSpec.ofChange Rows.syncplanReasonsSpec).at F).post enc prog Tryz.f8 false true false false):=by
 obtain⟨places,hx⟩:=reads os enc;refine returnsInHanded_of_row (C:=Tryz.checked) (s:=OpenSpec.ofChange Rows.syncplanReasonsSpec) own started (by kernel_rfl) func8
  (witness_row_at (enc:=enc) (C:=Tryz.checked) false (laidWorld os) #[.slice none 0 0] rfl (by kernel_rfl) (by kernel_rfl) (by kernel_rfl)
   (OpenSpec.preRow_of_cond 8 hx (by kernel_rfl) (fun k hk=>by cases hk) (by kernel_rfl) (laid_met os))) ?_
 intro W base args ds gs before hval hW _ _ hwt _ hsh _;exact contract H enc W base args ds gs before hval hW _ hwt hsh
end Go.Proofs.YtegeboijhifmcaaGreatDoor.syncplanReasonsRow
/- SyncplanReasons: for every input the statement returns true and leaves its arguments as they were. No conditions. -/
namespace Go.Proofs.YtegeboijhifmcaaGreatDoor.syncplanReasonsRow
open Go.Proofs.Tryz
open Go.ChangeShapes Go.WideShapes Go.ChangeAt Go.RowKit Go.Proofs.YtegeboijhifmcaaGreatDoor.cardBase
open Go.ChangeMaps (open_string shut_string)
theorem said:Rows.SyncplanReasonsSaid:=
 OpenClaim.holds_of_cond 8 Tryz.f8 rfl rfl rfl rfl rfl rfl rfl ⟨rfl,rfl,rfl,rfl,rfl⟩ rfl rfl rfl rfl rfl (by as_aux_lemma=>kernel_rfl) func8 (by
   unfold joinedFacts;simp only[Bool.and_eq_true]
   repeat' apply And.intro
   all_goals (as_aux_lemma=>kernel_rfl))
  (of_decide_eq_true (by as_aux_lemma=>kernel_rfl)) (by unfold Func.isWrapper;first | (rw[if_pos (by decide +kernel)];kernel_rfl) | (rw[if_neg (by decide +kernel)];exact⟨rfl,rfl⟩))
  (fun os started H enc _ F=>by rw[OpenClaim.pre_eq_preRow];exact lifted os started H enc F)
end Go.Proofs.YtegeboijhifmcaaGreatDoor.syncplanReasonsRow
