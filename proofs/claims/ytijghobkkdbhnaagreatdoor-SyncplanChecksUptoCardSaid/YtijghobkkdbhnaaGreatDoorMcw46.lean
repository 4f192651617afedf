/- A part. -/
import Derived.Test.YtijghobkkdbhnaaGreatDoorMcw45
import Derived.Test.YtijghobkkdbhnaaGreatDoorMcw42
import Derived.Test.YtijghobkkdbhnaaGreatDoorCards
import Derived.Test.YtijghobkkdbhnaaGreatDoorTie
import Derived.Deep.DeepHandedRow
import Derived.Lib.LaidTab
import Derived.Lib.SmallJoins
set_option linter.unusedVariables false
set_option linter.unusedSimpArgs false
set_option maxHeartbeats 8000000
set_option maxRecDepth 100000
namespace Go.Proofs.YtijghobkkdbhnaaGreatDoor
open Go.Proofs.Tryz
open Go.RowKit
section
variable {u0 u1 u2 u3 u4 u5 u6 u7 u8 u9 gA gC gD gE gF gG gH gI gJ gK gL gM gN gO gP gQ gR gT gV gW gX gY gZ i6 i7 i8 ia ib ic ie ig ii ij ik il im io ip iq ir iu iv iw ix iy iz iA iB iC iD iE iF iG iH iI iJ iK iL iM iN iO iP iQ iR iS iT iU iV iW iX iY iZ j0 j1 j2 j5 j6 j7 j8 j9 jb jd jf jg jh ji jj jk jl jm bE bF bG bH bI bJ bK bL bM bN bO bP bQ bT bU bV bW bX bY bZ cj ck cn cx cy cz cA cB cD cG cH cI cJ cM cN cO cP cQ cR cT cU cW cX cY cZ da dc dd de df dg dh di dj dm du dw dx dy dz dA dB dC dD dE : Value}
theorem zp1 (u:Value)(j:Nat):∀(l:List Syn) (k:Nat) (hk:k<l.length) (y:Syn) (_:j<5) (_:y.cells=l[k].cells.set j u),(l.set k y).flatMap Syn.cells=(l.flatMap Syn.cells).set (k * 5+j) u
 | [],k,hk,_,_,_=>absurd hk (by simp)
 | x :: r,0,_,y,hj,he=>by
  have he:y.cells=x.cells.set j u:=he;rw[List.set_cons_zero,List.flatMap_cons,List.flatMap_cons,he,Nat.zero_mul,Nat.zero_add,List.set_append_left _ _ (show j<x.cells.length from hj)]
 | x :: r,k+1,hk,y,hj,he=>by
  have ih:=zp1 u j r k (by simpa using hk) y hj he
  have e:(k+1) * 5+j=k * 5+j+5:=by omega
  rw[List.set_cons_succ,List.flatMap_cons,List.flatMap_cons,ih,e];rfl
theorem zj7.putC {w:World}{B g c n:Nat}{l:List Syn}(h:zj7 w B (.slice (some ⟨g,0,none⟩) n c) l){k j:Nat}(hk:k<l.length)(hj:j<5){u v:Value}(hv:l[k].cells[j]? = some v){y:Syn}(hy:y.cells=l[k].cells.set j u):
  (w.cell? ⟨g,k * 5+j,none⟩=some v∧w.frozen? ⟨g,k * 5+j,none⟩=false)∧zj7 (w.setCell ⟨g,k * 5+j,none⟩ u) B (.slice (some ⟨g,0,none⟩) n c) (l.set k y):=by
 have hn:n=l.length:=by
  obtain⟨A,c',e⟩:=z0o h;injection e
 subst hn;have hat:(l.flatMap Syn.cells)[k * 5+j]? = some v:=by
  rw[z4b Syn.cells 5 (fun _=>rfl) l k j hk hj];exact hv
 have h0:=z9x h (j:=k * 5+j) hat;refine⟨⟨h0.1,h0.2.1⟩,?_⟩;unfold zj7;rw[List.length_set,zp1 u j l k hk y hj hy];exact z9w h _
theorem ckR23 (ops:Array Oper)(hops:Tryz.f5.body.bind (z0x 23)=some ops)(Q:Exit→Act→World→Prop)(V:World)(g3 gl i:Nat)(hv pv:Value)(code:Int)(P:Value→World→Prop)
  (hC:∀ X,zB V X→X.cell? ⟨g3,4,none⟩=some hv∧X.cell? ⟨gl,i,none⟩=some pv) (hi:(i:Int)<2)
  (hR:∀ X,zB V X→Calls prog 18 #[hv,pv] X fun e w'=>∃ v,e=.returned (.tuple #[v,.int .i64 code])∧P v w'∧zB X w')
  (hP:∀ v X Y,P v X→zB X Y→P v Y)
  (hQ:∀(aG aH aI aJ aK aL aM aN aO aP v:Value) (w':World),zB V w'→P v w'→Q .normal ⟨#[u0,u1,u2,u3,u4,.pointer (some ⟨g3,0,none⟩),u6,u7,u8,u9,.slice (some ⟨gl,0,none⟩) 2 2,.int .i64 i,v,.int .i64 code,gF,gG,gH,gI,gJ,gK,gL,gM,gN,gO,gP,gQ,gR,gT,gV,gW,gX,gY,gZ,i6,i7,i8,ia,ib,ic,ie,ig,ii,ij,ik,il,im,io,ip,iq,ir,iu,iv,iw,ix,iy,iz,iA,iB,iC,iD,iE,iF,iG,iH,iI,iJ,iK,iL,iM,iN,iO,iP,iQ,iR,iS,iT,iU,iV,iW,iX,iY,iZ,j0,j1,j2,j5,j6,j7,j8,j9,jb,jd,jf,jg,jh,ji,jj,jk,jl,jm,bE,bF,bG,bH,bI,bJ,bK,bL,bM,bN,bO,bP,bQ,bT,bU,bV,bW,bX,bY,bZ,cj,ck,cn,cx,aG,aH,aI,aJ,aK,aL,aM,aN,aO,aP,cN,cO,cP,cQ,cR,cT,cU,cW,cX,cY,cZ,da,dc,dd,de,df,dg,dh,di,dj,dm,du,dw,dx,dy,dz,dA,dB,dC,dD,dE],[]⟩ w'):
  (Code.region 23 ops true).wp prog Q ⟨#[u0,u1,u2,u3,u4,.pointer (some ⟨g3,0,none⟩),u6,u7,u8,u9,.slice (some ⟨gl,0,none⟩) 2 2,.int .i64 i,gD,gE,gF,gG,gH,gI,gJ,gK,gL,gM,gN,gO,gP,gQ,gR,gT,gV,gW,gX,gY,gZ,i6,i7,i8,ia,ib,ic,ie,ig,ii,ij,ik,il,im,io,ip,iq,ir,iu,iv,iw,ix,iy,iz,iA,iB,iC,iD,iE,iF,iG,iH,iI,iJ,iK,iL,iM,iN,iO,iP,iQ,iR,iS,iT,iU,iV,iW,iX,iY,iZ,j0,j1,j2,j5,j6,j7,j8,j9,jb,jd,jf,jg,jh,ji,jj,jk,jl,jm,bE,bF,bG,bH,bI,bJ,bK,bL,bM,bN,bO,bP,bQ,bT,bU,bV,bW,bX,bY,bZ,cj,ck,cn,cx,cy,cz,cA,cB,cD,cG,cH,cI,cJ,cM,cN,cO,cP,cQ,cR,cT,cU,cW,cX,cY,cZ,da,dc,dd,de,df,dg,dh,di,dj,dm,du,dw,dx,dy,dz,dA,dB,dC,dD,dE],[]⟩ V:=by
 simp only[Tryz.f5,Option.bind_some,z0x] at hops
 simp at hops
 subst hops;have HQ:=hd_ hQ;have HR:=hd_ hR;have HP:=hd_ hP;have HC:=hd_ hC;obtain⟨x0,x1⟩:=hC V (Below.refl _ _);clear hQ hR hP hC;go_region_held3 (fun w'=>zB V w'∧w'.cell? ⟨g3,4,none⟩=some hv∧w'.cell? ⟨gl,i,none⟩=some pv)
  ((refine z3s ?_ (HC.out _);repeat (first | with_reducible assumption | with_reducible exact Below.refl _ _ | with_reducible refine Below.drew ?_)))
  (first
   | (go_at_call 18;refine (HR.out _ (by repeat (first | with_reducible assumption | with_reducible exact Below.refl _ _ | with_reducible refine Below.drew ?_))).mono ?_;rintro e w8 ⟨v,rfl,hp8,hb8⟩;have hS8:zB V w8:=z0r (by repeat (first | with_reducible assumption | with_reducible exact Below.refl _ _ | with_reducible refine Below.drew ?_)) hb8;have HP8:=hd_ hp8;clear hp8 hb8))
 all_goals exact HQ.out _ _ _ _ _ _ _ _ _ _ _ _ (by repeat (first | with_reducible assumption | with_reducible refine Below.drew ?_)) (HP.out _ _ _ HP8.out (by repeat (first | with_reducible exact Below.refl _ _ | with_reducible refine Below.drew ?_)))
theorem ckR24 (ops:Array Oper)(hops:Tryz.f5.body.bind (z0x 24)=some ops)(Q:Exit→Act→World→Prop)(V:World)(g3 gl i:Nat)(hv pv:Value)(code:Int)(P:Value→World→Prop)
  (hC:∀ X,zB V X→X.cell? ⟨g3,4,none⟩=some hv∧X.cell? ⟨gl,i,none⟩=some pv) (hi:(i:Int)<2)
  (hR:∀ X,zB V X→Calls prog 19 #[hv,pv] X fun e w'=>∃ v,e=.returned (.tuple #[v,.int .i64 code])∧P v w'∧zB X w')
  (hP:∀ v X Y,P v X→zB X Y→P v Y)
  (hQ:∀(aQ aR aS aT aU aV aW aX aY aZ v:Value) (w':World),zB V w'→P v w'→Q .normal ⟨#[u0,u1,u2,u3,u4,.pointer (some ⟨g3,0,none⟩),u6,u7,u8,u9,.slice (some ⟨gl,0,none⟩) 2 2,.int .i64 i,gD,gE,v,.int .i64 code,gH,gI,gJ,gK,gL,gM,gN,gO,gP,gQ,gR,gT,gV,gW,gX,gY,gZ,i6,i7,i8,ia,ib,ic,ie,ig,ii,ij,ik,il,im,io,ip,iq,ir,iu,iv,iw,ix,iy,iz,iA,iB,iC,iD,iE,iF,iG,iH,iI,iJ,iK,iL,iM,iN,iO,iP,iQ,iR,iS,iT,iU,iV,iW,iX,iY,iZ,j0,j1,j2,j5,j6,j7,j8,j9,jb,jd,jf,jg,jh,ji,jj,jk,jl,jm,bE,bF,bG,bH,bI,bJ,bK,bL,bM,bN,bO,bP,bQ,bT,bU,bV,bW,bX,bY,bZ,cj,ck,cn,cx,cy,cz,cA,cB,cD,cG,cH,cI,cJ,cM,aQ,aR,aS,aT,aU,aV,aW,aX,aY,aZ,cZ,da,dc,dd,de,df,dg,dh,di,dj,dm,du,dw,dx,dy,dz,dA,dB,dC,dD,dE],[]⟩ w'):
  (Code.region 24 ops true).wp prog Q ⟨#[u0,u1,u2,u3,u4,.pointer (some ⟨g3,0,none⟩),u6,u7,u8,u9,.slice (some ⟨gl,0,none⟩) 2 2,.int .i64 i,gD,gE,gF,gG,gH,gI,gJ,gK,gL,gM,gN,gO,gP,gQ,gR,gT,gV,gW,gX,gY,gZ,i6,i7,i8,ia,ib,ic,ie,ig,ii,ij,ik,il,im,io,ip,iq,ir,iu,iv,iw,ix,iy,iz,iA,iB,iC,iD,iE,iF,iG,iH,iI,iJ,iK,iL,iM,iN,iO,iP,iQ,iR,iS,iT,iU,iV,iW,iX,iY,iZ,j0,j1,j2,j5,j6,j7,j8,j9,jb,jd,jf,jg,jh,ji,jj,jk,jl,jm,bE,bF,bG,bH,bI,bJ,bK,bL,bM,bN,bO,bP,bQ,bT,bU,bV,bW,bX,bY,bZ,cj,ck,cn,cx,cy,cz,cA,cB,cD,cG,cH,cI,cJ,cM,cN,cO,cP,cQ,cR,cT,cU,cW,cX,cY,cZ,da,dc,dd,de,df,dg,dh,di,dj,dm,du,dw,dx,dy,dz,dA,dB,dC,dD,dE],[]⟩ V:=by
 simp only[Tryz.f5,Option.bind_some,z0x] at hops
 simp at hops
 subst hops;have HQ:=hd_ hQ;have HR:=hd_ hR;have HP:=hd_ hP;have HC:=hd_ hC;obtain⟨x0,x1⟩:=hC V (Below.refl _ _);clear hQ hR hP hC;go_region_held3 (fun w'=>zB V w'∧w'.cell? ⟨g3,4,none⟩=some hv∧w'.cell? ⟨gl,i,none⟩=some pv)
  ((refine z3s ?_ (HC.out _);repeat (first | with_reducible assumption | with_reducible exact Below.refl _ _ | with_reducible refine Below.drew ?_)))
  (first
   | (go_at_call 19;refine (HR.out _ (by repeat (first | with_reducible assumption | with_reducible exact Below.refl _ _ | with_reducible refine Below.drew ?_))).mono ?_;rintro e w8 ⟨v,rfl,hp8,hb8⟩;have hS8:zB V w8:=z0r (by repeat (first | with_reducible assumption | with_reducible exact Below.refl _ _ | with_reducible refine Below.drew ?_)) hb8;have HP8:=hd_ hp8;clear hp8 hb8))
 all_goals exact HQ.out _ _ _ _ _ _ _ _ _ _ _ _ (by repeat (first | with_reducible assumption | with_reducible refine Below.drew ?_)) (HP.out _ _ _ HP8.out (by repeat (first | with_reducible exact Below.refl _ _ | with_reducible refine Below.drew ?_)))
end
open Go.Sort (grow)
theorem ckT19 (T:Code)(hT:Tryz.f5.body.bind (zhg 19)=some T)(R:Ending→World→Prop)(W:World)(he:Env W)(g3:Nat)(hs:List Hav)(ps l:List Syn)(Ah A2 A1:Option Addr)(chh n2 c2 c1:Nat)(hn2:n2=ps.length)
  (hX:∀ X,zB W X→X.cell? ⟨g3,4,none⟩=some (.slice Ah hs.length chh)) (hH:z4h W (.slice Ah hs.length chh) hs) (hz:∀ x∈hs,x.path.size≤2000000∧x.loc.size≤2000000) (hl:hs.length≤6)
  (hS2:z57 W (.slice A2 n2 c2) ps) (hS1:z57 W (.slice A1 l.length c1) l) (hz2:∀ x∈ps,x.path.size≤2000000∧x.dst.size≤2000000) (hz1:∀ x∈l,x.path.size≤2000000∧x.dst.size≤2000000) (hl2:ps.length≤1000) (hl1:l.length * 6≤1048576)
  (hK:∀ X,Env X→Calls prog 10 #[] X fun e w'=>e=.returned (.bool true)∧zB X w')
  (hR:∀ X,zB W X→R (.returned (.bool true)) X)
  (u0 u2 u3 u4 u6 u8 u9 gA gC gD gE gF gG gH gI gJ gK gL gM gN gO gP gQ gR gT gV gW gX gY gZ i6 i7 i8 ia ib ic ie ig ii ij ik il im io ip iq ir iu iv iw ix iy iz iA iB iC iD iE iF iG iH iI iJ iK iL iM iN iO iP iQ iR iS iT iU iV iW iX iY iZ j0 j1 j2 j5 j6 j7 j8 j9 jb jd jf jg jh ji jj jk jl jm bE bF bG bH bI bJ bK bL bM bN bO bP bQ bT bU bV bW bX bY bZ cj ck cn cx cy cz cA cB cD cG cH cI cJ cM cN cO cP cQ cR cT cU cW cX cY cZ da dc dd de df dg dh di dj dm du dw dx dy dz dA dB dC dD dE:Value):
  T.wp prog (bodyPost prog Tryz.f5 R) ⟨#[u0,.slice A1 l.length c1,u2,u3,u4,.pointer (some ⟨g3,0,none⟩),u6,.slice A2 n2 c2,u8,u9,gA,gC,gD,gE,gF,gG,gH,gI,gJ,gK,gL,gM,gN,gO,gP,gQ,gR,gT,gV,gW,gX,gY,gZ,i6,i7,i8,ia,ib,ic,ie,ig,ii,ij,ik,il,im,io,ip,iq,ir,iu,iv,iw,ix,iy,iz,iA,iB,iC,iD,iE,iF,iG,iH,iI,iJ,iK,iL,iM,iN,iO,iP,iQ,iR,iS,iT,iU,iV,iW,iX,iY,iZ,j0,j1,j2,j5,j6,j7,j8,j9,jb,jd,jf,jg,jh,ji,jj,jk,jl,jm,bE,bF,bG,bH,bI,bJ,bK,bL,bM,bN,bO,bP,bQ,bT,bU,bV,bW,bX,bY,bZ,cj,ck,cn,cx,cy,cz,cA,cB,cD,cG,cH,cI,cJ,cM,cN,cO,cP,cQ,cR,cT,cU,cW,cX,cY,cZ,da,dc,dd,de,df,dg,dh,di,dj,dm,du,dw,dx,dy,dz,dA,dB,dC,dD,dE],[]⟩ W:=by
 subst hn2;simp only[Tryz.f5,Option.bind_some,zhg,zhf] at hT
 simp at hT
 subst hT;have HE:=hd_ he;have HX:=hd_ hX;have HH:=hd_ hH;have HZ:=hd_ hz;have H2:=hd_ (And.intro hS2 hz2);have H1:=hd_ (And.intro hS1 hz1);have HK:=hd_ hK;have HR:=hd_ hR;have HAL:Hid (zB W (W.alloc (.cells #[.slice A2 ps.length c2,.slice A1 l.length c1] 43))):=hd_ ((Below.refl _ _).alloc (Nat.le_refl _) _);have HBL:=hd_ (z0l W [.slice A2 ps.length c2,.slice A1 l.length c1] 43);clear he hX hH hz hS2 hS1 hz2 hz1 hK hR;go_upto_region 20 with fail;generalize W.alloc (.cells #[.slice A2 ps.length c2,.slice A1 l.length c1] 43)=W1 at HAL HBL ⊢;generalize W.heap.size=gl at HBL ⊢;go_wp2_with fail;go_loopw [11] (fun s wr=>∃ i:Nat,i≤2∧s=.int .i64 i∧Hid (zB W1 wr)) (fun s _=>2 - (intOf s).toNat)
 case atStart=>exact⟨0,Nat.zero_le _,rfl,hd_ (Below.refl _ _)⟩
 case round =>
  obtain⟨i,hi,rfl,HI⟩:=hrel;by_cases hlt:i<2
  ·obtain⟨ss,As,cs,HCL,HSS,hzs,hls⟩:∃(ss:List Syn) (As:Option Addr) (cs:Nat),Hid (∀ X,zB W1 X→X.cell? ⟨gl,i,none⟩=some (.slice As ss.length cs))∧Hid (z57 W (.slice As ss.length cs) ss)∧(∀ x∈ss,x.path.size≤2000000∧x.dst.size≤2000000)∧ss.length * 6≤1048576:=by
    rcases (show i=0∨i=1 by omega) with rfl | rfl
    ·exact⟨ps,A2,c2,hd_ (fun X hX=>(HBL.out.below hX HBL.out.lt).cell 0),hd_ H2.out.1,H2.out.2,by omega⟩
    ·exact⟨l,A1,c1,hd_ (fun X hX=>(HBL.out.below hX HBL.out.lt).cell 1),hd_ H1.out.1,H1.out.2,hl1⟩
   have HRS:=hd_ (fun X (hX:zB W X)=>zpa hs ss (.slice Ah hs.length chh) (.slice As ss.length cs) X (Row.below HH.out hX) (Row.below HSS.out hX) HZ.out hzs (by omega))
   have HRF:=hd_ (fun X (hX:zB W X)=>zqa hs ss (.slice Ah hs.length chh) (.slice As ss.length cs) X (HE.out.below hX) (Row.below HH.out hX) (Row.below HSS.out hX) HZ.out hzs (by omega))
   have HCK:=hd_ (fun X (hX:zB W X)=>zp9 hs ss (.slice Ah hs.length chh) (.slice As ss.length cs) X (Row.below HH.out hX) (Row.below HSS.out hX) HZ.out hzs (by omega))
   have HB:=hd_ (z0r HAL.out HI.out);have hi2:(i:Int)<2:=by omega
   generalize zik hs ss=pe at HRS HRF HCK;generalize (if pe=0 then z56 hs ss else [])=RL at HRS HRF;clear hzs hls;go_upto_region 23 with fail;refine ckR23 _ (by kernel_rfl) _ wr g3 gl i (.slice Ah hs.length chh) (.slice As ss.length cs) pe (fun v X=>z4h X v RL) (fun X hX=>⟨HX.out X (z0r HB.out hX),HCL.out X (z0r HI.out hX)⟩) hi2 (fun X hX=>HRS.out X (z0r HB.out hX)) (fun v X Y h hb=>Row.below h hb) ?_
   intro r124 r125 r126 r127 r128 r129 r130 r131 r132 r133 xv w3 hb3 hx3;have HB3:=hd_ hb3;have HX3:=hd_ hx3;clear hb3 hx3 HRS;go_upto_region 24 with fail;refine ckR24 _ (by kernel_rfl) _ w3 g3 gl i (.slice Ah hs.length chh) (.slice As ss.length cs) pe (fun v X=>z4h X v RL) (fun X hX=>⟨HX.out X (z0r HB.out (z0r HB3.out hX)),HCL.out X (z0r HI.out (z0r HB3.out hX))⟩) hi2 (fun X hX=>HRF.out X (z0r HB.out (z0r HB3.out hX))) (fun v X Y h hb=>Row.below h hb) ?_
   intro q134 q135 q136 q137 q138 q139 q140 q141 q142 q143 yv w4 hb4 hx4;have HB4:=hd_ (z0r HB3.out hb4);have HX4:=hd_ (And.intro (Row.below HX3.out hb4) hx4);clear hb4 hx4 HX3 HB3 HRF;have hbr:∀ d os,zB w4 (grow (redrawn w4 d) os):=fun d os=>below_regrown w4 d os;have m1:=cell_regrown (HX.out w4 (z0r HB.out HB4.out));have m2:=cell_regrown (HCL.out w4 (z0r HI.out HB4.out));have q1:(pe != pe)=false:=by simp
   have cS:∀ d os,Calls prog 11 #[xv,yv] (grow (redrawn w4 d) os) fun e w''=>e=.returned (.bool true)∧∃ p:Regrown,w''=grow (redrawn w4 p.d) p.os:=fun d os=>Calls.regrown_of (by have hh:=zmp RL xv yv (grow (redrawn w4 d) os) (Row.below HX4.out.1 (hbr d os)) (Row.below HX4.out.2 (hbr d os));exact hh)
   have cK:∀ d os,Calls prog 20 #[.slice Ah hs.length chh,.slice As ss.length cs] (grow (redrawn w4 d) os) fun e w''=>e=.returned (.int .i64 pe)∧∃ p:Regrown,w''=grow (redrawn w4 p.d) p.os:=fun d os=>Calls.regrown_of (by have hh:=HCK.out (grow (redrawn w4 d) os) (z0r HB.out (z0r HB4.out (hbr d os)));exact hh)
   clear hbr HCK;go_upto_region 25 with fail;refine wp_region_quiet_below (by kernel_rfl) (by kernel_rfl) ?_
   repeat (first | go_big_quiet_step (first | exact cS _ _ | exact cK _ _) | quiet_step (first | exact cS _ _ | exact cK _ _))
   refine wpQuiet_nil ?_;intro _ hw9;obtain⟨⟨dq,osq⟩,hw9⟩:=hw9;subst hw9;have HN:=hd_ (z0r (z0r HI.out HB4.out) (below_regrown w4 dq osq));generalize grow (redrawn w4 dq) osq=W9 at HN ⊢;clear cS cK m1 m2 HX4;go_wp2_with fail;go_roundw
   case rel=>exact⟨i+1,by omega,by go_num,HN⟩
   case measure=>simp [intOf];omega
  ·obtain rfl:i=2:=by omega
   have HB:=hd_ (z0r HAL.out HI.out);have HC:=hd_ (HK.out wr (HE.out.below HB.out));clear HI;go_wp2_with fail;refine HC.out.mono ?_;rintro e w5 ⟨rfl,hb5⟩;have HF:=hd_ (HR.out w5 (z0r HB.out hb5));clear hb5 HC;go_wp2_with fail;exact HF.out
theorem z9s.refl (S:List Nat)(w:World):z9s S w w:=z9s.below (Below.refl _ _)
end Go.Proofs.YtijghobkkdbhnaaGreatDoor
/- The world of the witness: the listed tables hold what their initialisers lay. -/
namespace Go.Proofs.YtijghobkkdbhnaaGreatDoor.cardBase
open Go.Proofs.Tryz
open Go.ChangeShapes Go.WideShapes Go.ChangeAt Go.RowKit
theorem own:ownKnob prog.godebug=none:=by kernel_rfl
theorem laidOut:laidOutB prog=true:=by kernel_rfl
def lay0:Obj→Obj
 | .cells _ t frozen=>.cells #[.int .u8 128,.int .u8 191,.int .u8 160,.int .u8 191,.int .u8 128,.int .u8 159,.int .u8 144,.int .u8 191,.int .u8 128,.int .u8 143,.int .u8 0,.int .u8 0,.int .u8 0,.int .u8 0,.int .u8 0,.int .u8 0,.int .u8 0,.int .u8 0,.int .u8 0,.int .u8 0,.int .u8 0,.int .u8 0,.int .u8 0,.int .u8 0,.int .u8 0,.int .u8 0,.int .u8 0,.int .u8 0,.int .u8 0,.int .u8 0,.int .u8 0,.int .u8 0] t frozen
 | o=>o
def lay1:Obj→Obj
 | .cells _ t frozen=>.cells (Go.Pinned.utf8FirstZ.map fun(n:Nat)=>Value.int .u8 (n:Int)).toArray t frozen
 | o=>o
noncomputable def laidWorld (os:Os):World:=
 { World.holding prog os ⟨#[],#[],[]⟩ with heap:=(((World.holding prog os ⟨#[],#[],[]⟩).heap.modify 2 lay0).modify 1 lay1) }
end Go.Proofs.YtijghobkkdbhnaaGreatDoor.cardBase
