/- A part of the proof. -/
import Derived.Test.YtegeboijhifmcaaGreatDoorMzSaQ
import Derived.Test.YtegeboijhifmcaaGreatDoorMgw43
set_option linter.unusedVariables false
set_option linter.unusedSimpArgs false
set_option maxHeartbeats 8000000
set_option maxRecDepth 100000
namespace Go.Proofs.YtegeboijhifmcaaGreatDoor
open Go.Proofs.Tryz
open Go.RowKit
open Go.Sort (grow)
section
variable {u0 u1 u2 u3 u4 u5 u6 u7 u8 u9 gn gt gu gx gy gz gA gC gD gE gF gG gH gI gJ gK gL gM gN gO gP gQ gR gT gV gW gX gY gZ i6 i7 i8 ia ib ic ie ig ii ij ik il im io ip iq ir iu iv iw ix iy iz iA iB iC iD iE iF iG iH iI iJ iK iL iM iN iO iP iQ iR iS iT iU iV iW iX iY iZ j0 j1 j2 j5 j6 j7 j8 j9 jb jd je jf bw bz bA bB bD bE bF bG bH bI bJ bK bL bM bN bO bP bQ bT bU bV bW bX bY bZ ca cj ck cn cx cy cz cA cB : Value}
theorem saR10 (ops:Array Oper)(hops:Tryz.f6.body.bind (zci 10)=some ops)(Q:Exit→Act→World→Prop)(V:World)(g3 n c k:Nat)(ad:Addr)(x:Syn)(op dt:List ByteArray)(Ao At:Option Addr)(co ct:Nat)
  (hx:z50 V (ad.add (k * 5)) x) (h5:V.cell? ⟨g3,5,none⟩=some (.slice Ao op.length co)) (h6:V.cell? ⟨g3,6,none⟩=some (.slice At dt.length ct)) (hk:k<n)
  (ho:Strs V (.slice Ao op.length co) op) (hd:Strs V (.slice At dt.length ct) dt) (hol:op.length≤1000) (hdl:dt.length≤1000)
  (n1:x.path∉op) (n2:¬(x.frm≠z2l∧x.frm∈dt)) (n3:¬(x.dst≠z2l∧x.dst∈dt))
  (hQ:∀(ft fu fv fw fx fy fA fB fC fD fE fF fG fH fI fJ fK fL fM fN fO fP fQ fR fS fT fU fV fW fX fY fZ ga gb gf gg gh gi gj gm aa jg ab:Value) (w':World),Below V.heap.size V w'→Q .normal ⟨#[u0,u1,u2,.pointer (some ⟨g3,0,none⟩),u4,.slice (some ad) n c,u6,u7,u8,.int .i64 k,gn,gt,gu,gx,gy,gz,gA,gC,gD,gE,gF,gG,gH,gI,gJ,gK,gL,gM,gN,gO,gP,gQ,gR,gT,gV,gW,gX,gY,gZ,i6,i7,i8,ia,ib,ic,ie,ig,ii,ij,ik,il,im,io,ip,iq,ir,iu,iv,iw,ix,ft,fu,fv,fw,fx,fy,fA,fB,fC,fD,fE,fF,fG,fH,fI,fJ,fK,fL,fM,fN,fO,fP,fQ,fR,fS,fT,fU,fV,fW,fX,fY,fZ,ga,gb,gf,gg,gh,gi,gj,gm,aa,jg,ab,.bool false,bD,bE,bF,bG,bH,bI,bJ,bK,bL,bM,bN,bO,bP,bQ,bT,bU,bV,bW,bX,bY,bZ,ca,cj,ck,cn,cx,cy,cz,cA,cB],[]⟩ w'):
  (Code.region 10 ops true).wp prog Q ⟨#[u0,u1,u2,.pointer (some ⟨g3,0,none⟩),u4,.slice (some ad) n c,u6,u7,u8,.int .i64 k,gn,gt,gu,gx,gy,gz,gA,gC,gD,gE,gF,gG,gH,gI,gJ,gK,gL,gM,gN,gO,gP,gQ,gR,gT,gV,gW,gX,gY,gZ,i6,i7,i8,ia,ib,ic,ie,ig,ii,ij,ik,il,im,io,ip,iq,ir,iu,iv,iw,ix,iy,iz,iA,iB,iC,iD,iE,iF,iG,iH,iI,iJ,iK,iL,iM,iN,iO,iP,iQ,iR,iS,iT,iU,iV,iW,iX,iY,iZ,j0,j1,j2,j5,j6,j7,j8,j9,jb,jd,je,jf,bw,bz,bA,bB,bD,bE,bF,bG,bH,bI,bJ,bK,bL,bM,bN,bO,bP,bQ,bT,bU,bV,bW,bX,bY,bZ,ca,cj,ck,cn,cx,cy,cz,cA,cB],[]⟩ V:=by
 simp only[Tryz.f6,Option.bind_some,zci] at hops
 simp at hops
 subst hops;have HQ:=hd_ hQ;have HO:=hd_ (fun d os=>ho.below (below_regrown V d os));have HD:=hd_ (fun d os=>hd.below (below_regrown V d os));have cO:∀ d os,Calls prog 22 #[.slice Ao op.length co,.string x.path] (grow (redrawn V d) os) fun e w''=>e=.returned (.bool false)∧∃ p:Regrown,w''=grow (redrawn V p.d) p.os:=fun d os=>Calls.regrown_of (by
  have h:=zqc op _ x.path _ (HO.out d os) (by omega)
  rw[decide_eq_false n1] at h;exact h)
 obtain⟨s0,s1,s2,s3,s4⟩:=hx;have m1:=cell_regrown s1;have m3:=cell_regrown s3;have m4:=cell_regrown s4;have b5:=cell_regrown h5;have b6:=cell_regrown h6;have hz:(k:Int)<(n:Int):=by omega
 clear hQ ho hd s0 s1 s2 s3 s4 h5 h6 n1;have HN2:=hd_ n2;have HN3:=hd_ n3;clear n2 n3;rcases zqi x.frm with⟨e1,p1,p2⟩ | ⟨e1,p1,p2⟩ <;> rcases zqi x.dst with⟨e2,q1,q2⟩ | ⟨e2,q1,q2⟩
 all_goals
  have cF:∀ d os,Calls prog 22 #[.slice At dt.length ct,.string x.frm] (grow (redrawn V d) os) fun e w''=>e=.returned (.bool (decide (x.frm∈dt)))∧∃ p:Regrown,w''=grow (redrawn V p.d) p.os:=fun d os=>Calls.regrown_of (zqc dt _ x.frm _ (HD.out d os) (by omega))
  have cT:∀ d os,Calls prog 22 #[.slice At dt.length ct,.string x.dst] (grow (redrawn V d) os) fun e w''=>e=.returned (.bool (decide (x.dst∈dt)))∧∃ p:Regrown,w''=grow (redrawn V p.d) p.os:=fun d os=>Calls.regrown_of (zqc dt _ x.dst _ (HD.out d os) (by omega))
  have hf:Hid (¬ x.frm=z2l→decide (x.frm∈dt)=false):=hd_ fun h=>decide_eq_false fun h2=>HN2.out ⟨h,h2⟩;have ht:Hid (¬ x.dst=z2l→decide (x.dst∈dt)=false):=hd_ fun h=>decide_eq_false fun h2=>HN3.out ⟨h,h2⟩;(try rw[hf.out e1] at cF)
  (try rw[ht.out e2] at cT)
  clear e1 e2 hf ht;refine wp_region_quiet_below (by kernel_rfl) (by kernel_rfl) ?_
  repeat (first | go_big_quiet_step (first | with_reducible exact cO _ _ | with_reducible exact cF _ _ | with_reducible exact cT _ _) | quiet_step (first | with_reducible exact cO _ _ | with_reducible exact cF _ _ | with_reducible exact cT _ _))
  refine wpQuiet_nil ?_;intro _ hw9;obtain⟨⟨dq,osq⟩,hw9⟩:=hw9;subst hw9;exact HQ.out _ _ _ _ _ _ _ _ _ _ _ _ _ _ _ _ _ _ _ _ _ _ _ _ _ _ _ _ _ _ _ _ _ _ _ _ _ _ _ _ _ _ _ _ (below_regrown V dq osq)
theorem saR15 (ops:Array Oper)(hops:Tryz.f6.body.bind (zci 15)=some ops)(Q:Exit→Act→World→Prop)(V:World)(n c k n7 c7 j:Nat)(ad a7:Addr)(x:Syn)(y:Hav)
  (hx:z50 V (ad.add (k * 5)) x) (hy:z4c V (a7.add (j * 3)) y) (hk:k<n) (hj:j<n7) (hn:y.loc=x.dst→y.path=x.path)
  (hQ:∀(al am ao ap aq ar au aw ax ay az aA aB aC aD aE jh ji aF aG aH aI aJ:Value) (w':World),Below V.heap.size V w'→Q .normal ⟨#[u0,u1,u2,u3,u4,.slice (some ad) n c,u6,.slice (some a7) n7 c7,u8,.int .i64 k,.int .i64 j,gt,gu,gx,gy,gz,gA,gC,gD,gE,gF,gG,gH,gI,gJ,gK,gL,gM,gN,gO,gP,gQ,gR,gT,gV,gW,gX,gY,gZ,i6,i7,i8,ia,ib,ic,ie,ig,ii,ij,ik,il,im,io,ip,iq,ir,iu,iv,iw,ix,iy,iz,iA,iB,iC,iD,iE,iF,iG,iH,iI,iJ,iK,iL,iM,iN,iO,iP,iQ,iR,iS,iT,iU,iV,iW,iX,iY,iZ,j0,j1,j2,j5,j6,j7,j8,j9,jb,jd,je,jf,bw,bz,bA,bB,bD,bE,bF,bG,bH,bI,al,am,ao,ap,aq,ar,au,aw,ax,ay,az,aA,aB,aC,aD,aE,jh,ji,aF,aG,aH,aI,aJ,.bool false],[]⟩ w'):
  (Code.region 15 ops true).wp prog Q ⟨#[u0,u1,u2,u3,u4,.slice (some ad) n c,u6,.slice (some a7) n7 c7,u8,.int .i64 k,.int .i64 j,gt,gu,gx,gy,gz,gA,gC,gD,gE,gF,gG,gH,gI,gJ,gK,gL,gM,gN,gO,gP,gQ,gR,gT,gV,gW,gX,gY,gZ,i6,i7,i8,ia,ib,ic,ie,ig,ii,ij,ik,il,im,io,ip,iq,ir,iu,iv,iw,ix,iy,iz,iA,iB,iC,iD,iE,iF,iG,iH,iI,iJ,iK,iL,iM,iN,iO,iP,iQ,iR,iS,iT,iU,iV,iW,iX,iY,iZ,j0,j1,j2,j5,j6,j7,j8,j9,jb,jd,je,jf,bw,bz,bA,bB,bD,bE,bF,bG,bH,bI,bJ,bK,bL,bM,bN,bO,bP,bQ,bT,bU,bV,bW,bX,bY,bZ,ca,cj,ck,cn,cx,cy,cz,cA,cB],[]⟩ V:=by
 simp only[Tryz.f6,Option.bind_some,zci] at hops
 simp at hops
 subst hops;have HQ:=hd_ hQ;obtain⟨s0,s1,s2,s3,s4⟩:=hx;obtain⟨r0,r1,r2⟩:=hy;have m1:=cell_regrown s1;have m4:=cell_regrown s4;have b0:=cell_regrown r0;have b2:=cell_regrown r2;have hz:(k:Int)<(n:Int):=by omega
 have hz7:(j:Int)<(n7:Int):=by omega
 clear hQ s0 s1 s2 s3 s4 r0 r1 r2;by_cases h1:y.loc=x.dst
 ·have q1:(y.loc.toList == x.dst.toList)=true:=by rw[z3x,decide_eq_true h1]
  have q2:(y.path.toList == x.path.toList)=true:=by rw[z3x,decide_eq_true (hn h1)]
  clear h1 hn;refine wp_region_quiet_below (by kernel_rfl) (by kernel_rfl) ?_
  repeat (first | go_big_quiet_step (fail) | quiet_step (fail))
  refine wpQuiet_nil ?_;intro _ hw9;obtain⟨⟨dq,osq⟩,hw9⟩:=hw9;subst hw9;exact HQ.out _ _ _ _ _ _ _ _ _ _ _ _ _ _ _ _ _ _ _ _ _ _ _ _ (below_regrown V dq osq)
 ·have q1:(y.loc.toList == x.dst.toList)=false:=by rw[z3x,decide_eq_false h1]
  clear h1 hn;refine wp_region_quiet_below (by kernel_rfl) (by kernel_rfl) ?_
  repeat (first | go_big_quiet_step (fail) | quiet_step (fail))
  refine wpQuiet_nil ?_;intro _ hw9;obtain⟨⟨dq,osq⟩,hw9⟩:=hw9;subst hw9;exact HQ.out _ _ _ _ _ _ _ _ _ _ _ _ _ _ _ _ _ _ _ _ _ _ _ _ (below_regrown V dq osq)
end
theorem zqj (L:List Int)(A:Option Addr)(c:Nat)(w:World)(he:Env w)(hL:Row w 1 (.slice A L.length c) L.length (L.map fun(n:Int)=>.int .i64 n))(hA:∀ ad,A=some ad→ad.block<w.heap.size):
  Calls prog 6 #[.slice A L.length c] w fun e w'=>e=.returned (.bool true)∧Below w.heap.size w w':=by
 have HMD:=hd_ (zpo L A c w he hL hA);have HKN:=hd_ (fun X (hX:Env X)=>zne X hX);clear he hL hA;go_enter func6,ntmps6;go_wp2_with fail;refine HMD.out.mono ?_;rintro e w1 ⟨dv,dr,mv,hv,ov,tv,U,g,D,k,es,ch,hs,op,dt,rfl,hsc,hat,-,-,-,hb1,hen,Aq,cq,rfl⟩;dsimp only;obtain⟨Ad,cd,rfl,-⟩:=id hat.revs;obtain⟨Am,cm,rfl,-⟩:=id hat.ents.1;obtain⟨Ah,chh,rfl,-⟩:=id hat.havs;obtain⟨Ao,co,rfl,-⟩:=id hat.opn;obtain⟨At,ct,rfl,-⟩:=id hat.drt;have HS:=hd_ (zqe (dr:=.slice Aq 0 cq) hsc hat hen);clear HMD hsc hat hen;go_upto_region 2 with fail;have HB2:=hd_ (zcf hb1 (.cells #[.slice Ad D.length cd,.slice Aq 0 cq,.slice Am es.length cm,.int .i64 ch,.slice Ah hs.length chh,.slice Ao op.length co,.slice At dt.length ct] 31));have HS2:=hd_ (HS.out.under ((Below.refl w1.heap.size w1).alloc (Nat.le_refl _) (.cells #[.slice Ad D.length cd,.slice Aq 0 cq,.slice Am es.length cm,.int .i64 ch,.slice Ah hs.length chh,.slice Ao op.length co,.slice At dt.length ct] 31)));have HX2:=hd_ (z0l w1 [.slice Ad D.length cd,.slice Aq 0 cq,.slice Am es.length cm,.int .i64 ch,.slice Ah hs.length chh,.slice Ao op.length co,.slice At dt.length ct] 31);clear HS hb1;generalize w1.alloc (.cells #[.slice Ad D.length cd,.slice Aq 0 cq,.slice Am es.length cm,.int .i64 ch,.slice Ah hs.length chh,.slice Ao op.length co,.slice At dt.length ct] 31)=W2 at HB2 HS2 HX2 ⊢;generalize w1.heap.size=g3 at HX2 ⊢;obtain⟨x0,x1,x2,x3,x4,x5,x6⟩:=zqf HX2.out;have HPL:=hd_ (HS2.out.plan ch hs op dt (.slice Ah hs.length chh) (.slice Ao op.length co) (.slice At dt.length ct) HS2.out.hv HS2.out.hl HS2.out.at_.havs HS2.out.at_.opn HS2.out.at_.drt HS2.out.opl HS2.out.dtl);go_wp2_with fail;refine HPL.out.mono ?_;rintro e w3 ⟨pv,rfl,hp,hb3⟩;dsimp only;obtain⟨Ap,cp,rfl,-⟩:=id hp;have HB3:=hd_ (z0r HB2.out hb3);have HS3:=hd_ (HS2.out.under hb3);have HX3:=hd_ (HX2.out.below hb3 HX2.out.lt);have HP3:=hd_ hp;clear hb3 HB2 HS2 HX2 HPL hp x0 x1 x2 x3 x4 x5 x6;obtain⟨x0,x1,x2,x3,x4,x5,x6⟩:=zqf HX3.out;have HRS:=hd_ (zn4 HS3.out.hv HS3.out.wok (by have:=HS3.out.hl;omega) HS3.out.wl HS3.out.at_.havs HP3.out)
 go_wp2_with fail;refine HRS.out.mono ?_;rintro e w4 ⟨rv,rfl,hr,hb4⟩;dsimp only;obtain⟨Ar,cr,rfl,-⟩:=id hr;have HB4:=hd_ (z0r HB3.out hb4);have HS4:=hd_ (HS3.out.under hb4);have HX4:=hd_ (HX3.out.below hb4 HX3.out.lt);have HP4:=hd_ (HP3.out.below hb4);have HR4:=hd_ hr;clear hb4 HB3 HS3 HX3 HRS HP3 hr x0 x1 x2 x3 x4 x5 x6;have HKW:=hd_ (HKN.out _ HS4.out.env);obtain⟨x0,x1,x2,x3,x4,x5,x6⟩:=zqf HX4.out;go_wp2_with fail;refine HKW.out.mono ?_;rintro e w5 ⟨rfl,hb5⟩;dsimp only;have HB5:=hd_ (z0r HB4.out hb5);have HS5:=hd_ (HS4.out.under hb5);have HX5:=hd_ (HX4.out.below hb5 HX4.out.lt);have HP5:=hd_ (HP4.out.below hb5);have HR5:=hd_ (HR4.out.below hb5);clear hb5 HB4 HS4 HX4 HKW HP4 HR4 x0 x1 x2 x3 x4 x5 x6 HKN;have HL:Hid (∀ x∈zf9 hs (zfk D (zdt es) ch) op dt,z3o x.kind=false→x.path∉op∧¬(x.frm≠z2l∧x.frm∈dt)∧¬(x.dst≠z2l∧x.dst∈dt)∧∀ a∈z4y hs (zf9 hs (zfk D (zdt es) ch) op dt),a.loc=x.dst→a.path=x.path):=hd_ fun x hx hd=>zq6 HS5.out.hv HS5.out.wok hx hd;have HPN:Hid ((zf9 hs (zfk D (zdt es) ch) op dt).length≤1000):=hd_ (Nat.le_trans zn0 (by have:=HS5.out.hl;have:=HS5.out.wl (m:=ch);omega))
 have HRN:Hid ((z4y hs (zf9 hs (zfk D (zdt es) ch) op dt)).length≤1000):=hd_ (zpp HS5.out.hl HS5.out.wl);generalize z4y hs (zf9 hs (zfk D (zdt es) ch) op dt)=re at HL HR5 HRN ⊢;generalize zf9 hs (zfk D (zdt es) ch) op dt=pl at HL HP5 HPN ⊢;have hpn:=HPN.out;have hrn:=HRN.out;go_wp2_with fail;go_loopw [9,10] (fun i _ wr=>∃ k:Nat,i=.int .i64 k∧k≤pl.length∧Hid (Below w5.heap.size w5 wr)) (fun i _ _=>pl.length - (intOf i).toNat)
 case atStart=>exact⟨0,rfl,Nat.zero_le _,Below.refl _ _⟩
 case round =>
  obtain⟨k,rfl,hk,HI⟩:=hrel;by_cases hlt:k<pl.length
  ·obtain⟨ad,rfl,hab,hx⟩:=z4z.at_ (HP5.out.below HI.out) hlt;have HLX:=hd_ (HL.out pl[k] (List.getElem_mem hlt));have hz:(k:Int)<(pl.length:Int):=by omega
   generalize pl[k]=x at hx HLX;have HID:=hd_ (zqb x wr);have HX9:=hd_ hx;have HAB:=hd_ hab;obtain⟨x0,x1,x2,x3,x4⟩:=hx;rcases Bool.eq_false_or_eq_true (z3o x.kind) with hst | hst
   ·rw[hst] at HID;clear hst HLX hab;go_wp2_with fail;refine HID.out.mono ?_;rintro e v1 ⟨rfl,hv⟩;have HB1:=hd_ (HI.out.trans (hv.mono HI.out.size));clear hv x0 x1 x2 x3 x4 HID;go_wp2_with fail;go_roundw
    case rel=>exact⟨k+1,by go_num,by omega,HB1⟩
    case measure=>simp [intOf];omega
   ·rw[hst] at HID;have HLY:=hd_ (HLX.out hst);clear hst HLX hab;go_wp2_with fail;refine HID.out.mono ?_;rintro e v1 ⟨rfl,hv⟩;have HB1:=hd_ (HI.out.trans (hv.mono HI.out.size));have HX1:Hid (z50 v1 (ad.add (k * 5)) x):=hd_ (zqh HX9.out (z50.lt HX9.out) hv);clear hv x0 x1 x2 x3 x4 HID HX9;go_upto_region 10 with fail;refine saR10 _ (by kernel_rfl) _ v1 g3 pl.length cp k ad x op dt Ao At co ct HX1.out ((HX5.out.below HB1.out HX5.out.lt).cell 5) ((HX5.out.below HB1.out HX5.out.lt).cell 6) hlt (HS5.out.under HB1.out).at_.opn (HS5.out.under HB1.out).at_.drt HS5.out.opl HS5.out.dtl HLY.out.1 HLY.out.2.1 HLY.out.2.2.1 ?_
    intro ft fu fv fw fx fy fA fB fC fD fE fF fG fH fI fJ fK fL fM fN fO fP fQ fR fS fT fU fV fW fX fY fZ ga gb gf gg gh gi gj gm aa jg ab v2 hv2;have HB2:=hd_ (HB1.out.trans (hv2.mono HB1.out.size));have HX2:=hd_ (zqh HX1.out (z50.lt HX1.out) hv2);clear hv2 HX1;go_wp2_with fail;go_loopw [10] (fun i wr=>∃ j:Nat,i=.int .i64 j∧j≤re.length∧Hid (Below w5.heap.size w5 wr∧z50 wr (ad.add (k * 5)) x)) (fun i _=>re.length - (intOf i).toNat)
    case atStart=>exact⟨0,rfl,Nat.zero_le _,HB2.out,HX2.out⟩
    case round =>
     obtain⟨j,rfl,hj,HJ⟩:=hrel;by_cases hlj:j<re.length
     ·obtain⟨a7,rfl,hab7,hy⟩:=z4b.at_ (HR5.out.below HJ.out.1) hlj;have hyl:=HLY.out.2.2.2 re[j] (List.getElem_mem hlj);have hz7:(j:Int)<(re.length:Int):=by omega
      generalize re[j]=y at hy hyl;go_upto_region 15 with fail;refine saR15 _ (by kernel_rfl) _ _ pl.length cp k re.length cr j ad a7 x y HJ.out.2 hy hlt hlj hyl ?_
      intro al am ao ap aq ar au aw ax ay az aA aB aC aD aE jh ji aF aG aH aI aJ v3 hv3;have HB3:=hd_ (And.intro (HJ.out.1.trans (hv3.mono HJ.out.1.size)) (zqh HJ.out.2 (z50.lt HJ.out.2) hv3));clear hv3 hy hyl hab7;go_wp2_with fail;go_roundw
      case rel=>exact⟨j+1,by go_num,by omega,HB3⟩
      case measure=>simp [intOf];omega
     ·have hz7:¬((j:Int)<(re.length:Int)):=by omega
      have HB3:=hd_ HJ.out.1;clear HJ;go_wp2_with fail;go_roundw
      case rel=>exact⟨k+1,by go_num,by omega,HB3⟩
      case measure=>simp [intOf];omega
  ·have hz:¬((k:Int)<(pl.length:Int)):=by omega
   have HB1:=hd_ (z0r HB5.out HI.out);clear HI;go_wp2_with fail;go_ret;exact⟨rfl,HB1.out⟩
end Go.Proofs.YtegeboijhifmcaaGreatDoor
/- SyncplanSafe: for every input the statement returns true and leaves its arguments as they were. No conditions. -/
namespace Go.Proofs.YtegeboijhifmcaaGreatDoor.syncplanSafeRow
open Go.Proofs.Tryz
open Go.ChangeShapes Go.WideShapes Go.ChangeAt Go.RowKit Go.Proofs.YtegeboijhifmcaaGreatDoor.cardBase
open Go.ChangeMaps (open_string shut_string)
theorem contract (H:Type)(enc:TypeId×Value→H)(W:World)(base:Nat)(args:Array Value)(ds gs:List (DataW H))(before:List MemPlace)
  (hval0:∀(j:Nat) t v,Tryz.f6.params[j]? = some t→args[j]? = some v→Value.okWide prog W .any base t v)
  (hW:DataW.Whole enc prog Tryz.f6.params.toList Rows.syncplanSafeSpec.vars false W args.toList ds gs before) (ts:List TypeId) (hwt:(DataW.weightsEach prog (Tryz.f6.params.toList++ts) (ds++gs)).all (·≤reachBytes)=true) (hsh:W.ShapedOpen prog):
  Calls prog 6 args W fun e W'=>∃ v,e=.returned v∧Rows.syncplanSafeSpec.post enc prog Tryz.f6 false true false false W args v W':=by
 have he:Env W:=env_of hsh;have hW':=hW;have hval:∀(j:Nat) t v,Tryz.f6.params[j]? = some t→args[j]? = some v→Value.okWide prog W .any base t v:=hval0;obtain⟨p,q,hA0,hV,rfl,hfz,hnd⟩:=hW;have hA:DataW.TrodAll enc prog W 0 (fun _=>true) true Tryz.f6.params.toList args.toList ds p:=hA0;rw[Tryz.params6] at hA hval;obtain⟨v0,vs0,d0,ds0,p0,q0,hargs,rfl,rfl,h0,r0⟩:=trodAll_cons hA;obtain⟨rfl,rfl,rfl⟩:=trodAll_nil r0;obtain rfl:args=#[v0]:=by cases args;simp_all
 obtain⟨rfl,rfl⟩:=trodVars_none hV;have k0:=h0;have lt0:∀ x∈p0,x.block<W.heap.size:=by obtain⟨m,hm⟩:=k0;exact DataW.trod_lt m _ _ _ hm
 obtain⟨l0,A0,c0,rfl,b0,z0⟩:=zps underlying22 underlying3 (by kernel_rfl) (hval 0 22 v0 rfl rfl) h0
 clear hA0 hval0;refine (zqj l0 A0 c0 W he b0 z0).mono fun e W' ⟨he,bel⟩=>?_;subst he;exact⟨_,rfl,_,_,_,[],_,[],hW',trodAll_mk1 (shut_bool underlying4 _),(trodAll_cons_mk (Below.trod laidOut (by kernel_rfl) (of_decide_eq_true (by kernel_rfl)) k0 bel lt0) trodAll_mk0),rfl,bel.frame _,fun h=>by cases h⟩
theorem laid_met (os:Os):laidMet prog Rows.syncplanSafeRow.laid ((laidWorld os).forCall (fun _ _=>0) ⟨#[],#[.slice none 0 0],[]⟩).memory:=
 laidMet_of_run' 8 (by kernel_rfl) (by kernel_rfl)
theorem reads (os:Os){H:Type}(enc:TypeId×Value→H):∃ places,DataW.whole enc prog ((laidWorld os).forCall (fun _ _=>0) ⟨#[],#[.slice none 0 0],[]⟩).memory Tryz.f6.params.toList Rows.syncplanSafeSpec.vars false (#[.slice none 0 0]:Array Value).toList 8=some ([.nil],[],places):=
 ⟨[],by kernel_rfl⟩
theorem lifted (os:Os)(started:os.Started)(H:Type)(enc:TypeId×Value→H)(F:Stop.Interp):
  ReturnsInHanded {} Tryz.checked os 6 .any ((OpenSpec.ofChange Rows.syncplanSafeSpec).preRow enc prog Tryz.f6 Rows.syncplanSafeRow.domain false Rows.syncplanSafeRow.laid) (((OpenSpec.ofChange Rows.syncplanSafeSpec).at F).post enc prog Tryz.f6 false true false false):=by
 obtain⟨places,hx⟩:=reads os enc;refine returnsInHanded_of_row (C:=Tryz.checked) (s:=OpenSpec.ofChange Rows.syncplanSafeSpec) own started (by kernel_rfl) func6
  (witness_row_at (enc:=enc) (C:=Tryz.checked) false (laidWorld os) #[.slice none 0 0] rfl (by kernel_rfl) (by kernel_rfl) (by kernel_rfl)
   (OpenSpec.preRow_of_cond 8 hx (by kernel_rfl) (fun k hk=>by cases hk) (by kernel_rfl) (laid_met os))) ?_
 intro W base args ds gs before hval hW _ _ hwt _ hsh _;exact contract H enc W base args ds gs before hval hW _ hwt hsh
end Go.Proofs.YtegeboijhifmcaaGreatDoor.syncplanSafeRow
/- SyncplanSafe: for every input the statement returns true and leaves its arguments as they were. No conditions. -/
namespace Go.Proofs.YtegeboijhifmcaaGreatDoor.syncplanSafeRow
open Go.Proofs.Tryz
open Go.ChangeShapes Go.WideShapes Go.ChangeAt Go.RowKit Go.Proofs.YtegeboijhifmcaaGreatDoor.cardBase
open Go.ChangeMaps (open_string shut_string)
theorem said:Rows.SyncplanSafeSaid:=
 OpenClaim.holds_of_cond 6 Tryz.f6 rfl rfl rfl rfl rfl rfl rfl ⟨rfl,rfl,rfl,rfl,rfl⟩ rfl rfl rfl rfl rfl (by as_aux_lemma=>kernel_rfl) func6 (by
   unfold joinedFacts;simp only[Bool.and_eq_true]
   repeat' apply And.intro
   all_goals (as_aux_lemma=>kernel_rfl))
  (of_decide_eq_true (by as_aux_lemma=>kernel_rfl)) (by unfold Func.isWrapper;first | (rw[if_pos (by decide +kernel)];kernel_rfl) | (rw[if_neg (by decide +kernel)];exact⟨rfl,rfl⟩))
  (fun os started H enc _ F=>by rw[OpenClaim.pre_eq_preRow];exact lifted os started H enc F)
end Go.Proofs.YtegeboijhifmcaaGreatDoor.syncplanSafeRow
