/- A part of the proof. -/
import Derived.Test.YtegeboijhifmcaaGreatDoorMzSaQ
import Derived.Test.YtegeboijhifmcaaGreatDoorMgw43
set_option linter.unusedVariables false
set_option linter.unusedSimpArgs false
set_option maxHeartbeats 8000000
set_option maxRecDepth 100000
namespace Go.Proofs.YtegeboijhifmcaaGreatDoor
open Go.Proofs.Tryz
open Go.RowKit
section
variable {α : Type} {k : α → ByteArray} {f : ByteArray → Option α}
def zqu (f:ByteArray→Option α)(i:Nat):Nat:=((zff.take i).filterMap f).length
theorem cnt_0:zqu f 0=0:=rfl
theorem cnt_le (i:Nat):zqu f i≤i:=by
 unfold zqu;exact Nat.le_trans (List.length_filterMap_le _ _) (by rw[List.length_take];exact Nat.min_le_left _ _)
theorem cnt_end:zqu f 6=(zff.filterMap f).length:=rfl
theorem zqv (i:Nat)(hi:i<zff.length):zff.filterMap f=(zff.take i).filterMap f++((f (zff[i]'hi)).toList++(zff.drop (i+1)).filterMap f):=by
 have e:zff=zff.take i++zff[i]'hi :: zff.drop (i+1):=by
  rw[List.getElem_cons_drop,List.take_append_drop]
 conv=>lhs;rw[e]
 rw[List.filterMap_append,List.filterMap_cons];cases h:f (zff[i]'hi) with
 | none=>simp
 | some a=>simp
theorem cnt_yes {i:Nat}{a:α}(hi:i<zff.length)(h:f (zff[i]'hi)=some a):zqu f (i+1)=zqu f i+1∧∃ hn:zqu f i<(zff.filterMap f).length,(zff.filterMap f)[zqu f i]'hn=a:=by
 have e:=zqv (f:=f) i hi;rw[h] at e;refine⟨?_,?_⟩
 ·unfold zqu;rw[zqr f zff i hi,h,List.length_append];rfl
 ·have hn:zqu f i<(zff.filterMap f).length:=by
   rw[e,List.length_append,List.length_append];unfold zqu;simp
   omega
  refine⟨hn,?_⟩;have:(zff.filterMap f)[zqu f i]? = some a:=by
   unfold zqu;rw[e,List.getElem?_append_right (Nat.le_refl _)];simp
  rw[List.getElem?_eq_getElem hn] at this;exact Option.some.inj this
theorem cnt_no {i:Nat}(hk:∀ q a,f q=some a→k a=q)(hi:i<zff.length)(h:f (zff[i]'hi)=none):zqu f (i+1)=zqu f i∧∀ hn:zqu f i<(zff.filterMap f).length,k ((zff.filterMap f)[zqu f i]'hn)≠zff[i]'hi:=by
 have e:=zqv (f:=f) i hi;rw[h] at e;refine⟨?_,fun hn he=>?_⟩
 ·unfold zqu;rw[zqr f zff i hi,h,List.length_append];rfl
 ·have h1:(zff.filterMap f)[zqu f i]? = ((zff.drop (i+1)).filterMap f)[0]?:=by
   unfold zqu;rw[e,List.getElem?_append_right (Nat.le_refl _)];simp
  rw[List.getElem?_eq_getElem hn] at h1;have h2:=List.mem_of_getElem? h1.symm;obtain⟨q,hq,e2⟩:=List.mem_filterMap.1 h2;rw[hk q _ e2] at he;rw[he] at hq;obtain⟨j,hj,e3⟩:=List.mem_iff_getElem.1 hq;rw[List.getElem_drop] at e3;have hj':i+1+j<zff.length:=by
   rw[List.length_drop] at hj;omega
  have:=List.pairwise_iff_getElem.1 zfg i (i+1+j) hi hj' (by omega)
  exact z5z this e3.symm
end
theorem zqw {hs ws:List Hav}{op dt:List ByteArray}(h1:zf0 hs)(h2:zf0 ws)(h6:∀ x∈hs,x.path∈zff)(w6:∀ x∈ws,x.path∈zff):zff.filterMap (z6e (zf9 hs ws op dt))=zf9 hs ws op dt:=by
 refine zqp zfg (zfd h1 h2).1 fun x hx=>?_;obtain⟨y,e,-,-⟩:=zfe h1 h2 hx;rcases zfb e with⟨a,e1,-,-⟩ | ⟨b,-,e1,-⟩ | ⟨a,b,e1,-,-,-⟩
 ·obtain⟨m1,m2⟩:=zk5 e1;rw[← m2];exact h6 a m1
 ·obtain⟨m1,m2⟩:=zk5 e1;rw[← m2];exact w6 b m1
 ·obtain⟨m1,m2⟩:=zk5 e1;rw[← m2];exact h6 a m1
def zqx:Hav:=⟨z2l,0,z2l⟩
def zqy (a b:Option Hav):Bool:=(a.isSome != b.isSome) || decide (a.getD zqx≠b.getD zqx)
theorem diff_no {a b:Option Hav}(h:z6i b a=none):zqy a b=false:=by
 have:=zq1.1 h;subst this;unfold zqy;simp
theorem zqz {a b:Option Hav}{y:Syn}(h:z6i b a=some y):zqy a b=true∧y.num=(a.getD zqx).num∧y.frm=(b.getD zqx).loc∧y.dst=(a.getD zqx).loc:=by
 rcases zfb h with⟨x,rfl,rfl,rfl⟩ | ⟨x,rfl,rfl,rfl⟩ | ⟨x,z,rfl,rfl,hne,rfl⟩
 ·exact⟨rfl,rfl,rfl,rfl⟩
 ·exact⟨rfl,rfl,rfl,rfl⟩
 ·refine⟨?_,rfl,rfl,rfl⟩;unfold zqy;simp only[Option.isSome_some,Option.getD_some,Bool.or_eq_true,decide_eq_true_eq]
  exact .inr (fun e=>hne e.symm)
theorem zr0 {hs ws:List Hav}{op dt:List ByteArray}(h1:zf0 hs)(h2:zf0 ws)(p:ByteArray):
  (zqy (z6d ws p) (z6d hs p)=false∧z6e (zf9 hs ws op dt) p=none) ∨
  (zqy (z6d ws p) (z6d hs p)=true∧∃ x,z6e (zf9 hs ws op dt) p=some x∧x.path=p∧x.num=((z6d ws p).getD zqx).num∧x.frm=((z6d hs p).getD zqx).loc∧x.dst=((z6d ws p).getD zqx).loc):=by
 have e:=(zfd (op:=op) (dt:=dt) h1 h2).2 p;cases hst:z6i (z6d hs p) (z6d ws p) with
 | none=>rw[hst] at e;exact .inl ⟨diff_no hst,e⟩
 | some y =>
  rw[hst] at e;obtain⟨d1,d2,d3,d4⟩:=zqz hst;refine .inr ⟨d1,_,e,(z61 e).2,?_,?_,?_⟩
  ·rw[(zei _ _).1];exact d2
  ·rw[(zei _ _).2.1];exact d3
  ·rw[(zei _ _).2.2];exact d4
open Go.Sort (grow)
section
variable {u0 u1 u2 u3 u4 u5 u6 u7 u8 u9 gn gt gu gx gy gz gA gC gD gE gF gG gH gI gJ gK gL gM gN gO gP gQ gR gT gV gW gX gY gZ i6 i7 i8 ia ib ic ie ig ii ij ik il im io ip iq ir iu iv iw ix iy iz iA iB iC iD iE iF iG iH iI iJ iK iL iM iN iO iP iQ iR iS iT iU iV iW iX iY iZ j0 j1 j2 j5 j6 j7 j8 j9 jb jd je jf bw bz bA bB bD bE bF bG bH bI bJ bK bL bM bN bO bP bQ bT bU bV bW bX bY bZ ca cj ck cn cx cy cz cA cB cD cE cG cH cI cJ cM cN cO cP cQ cT cU cW cZ da db dc : Value}
def ThRow (pl:List Syn)(N:Nat→Nat)(o1 o2:Option Hav)(k:Nat)(q:ByteArray):Prop:=
 (((o1.isSome != o2.isSome) || !decide (o1.getD zop=o2.getD zop))=false∧N (k+1)=N k∧∀ hn:N k<pl.length,(pl[N k]'hn).path≠q) ∨
 (((o1.isSome != o2.isSome) || !decide (o1.getD zop=o2.getD zop))=true∧N (k+1)=N k+1∧∃ hn:N k<pl.length,(pl[N k]'hn).path=q∧(pl[N k]'hn).num=(o1.getD zop).num∧(pl[N k]'hn).frm=(o2.getD zop).loc∧(pl[N k]'hn).dst=(o1.getD zop).loc)
theorem zr1 (a b:Option Hav):zqy a b=((a.isSome != b.isSome) || !decide (a.getD zop=b.getD zop)):=by
 unfold zqy;rw[← decide_not];rfl
theorem zr2 {hs ws:List Hav}{op dt:List ByteArray}(h1:zf0 hs)(h2:zf0 ws)(h6:∀ x∈hs,x.path∈zff)(w6:∀ x∈ws,x.path∈zff):
  ∃ N:Nat→Nat,N 0=0∧N 6=(zf9 hs ws op dt).length∧(∀ k,N k≤k)∧∀ k (hk:k<zff.length),ThRow (zf9 hs ws op dt) N (z6d ws (zff[k]'hk)) (z6d hs (zff[k]'hk)) k (zff[k]'hk):=by
 have hp:=zqw (op:=op) (dt:=dt) h1 h2 h6 w6;refine⟨zqu (z6e (zf9 hs ws op dt)),cnt_0,by rw[cnt_end,hp],cnt_le,fun k hk=>?_⟩
 unfold ThRow;rw[← zr1];rcases zr0 (op:=op) (dt:=dt) h1 h2 (zff[k]'hk) with⟨e1,e2⟩ | ⟨e1,x,e2,e3,e4,e5,e6⟩
 ·obtain⟨c1,c2⟩:=cnt_no (f:=z6e (zf9 hs ws op dt)) (k:=Syn.path) (fun q a h=>(z61 h).2) hk e2;refine .inl ⟨e1,c1,fun hn=>?_⟩;have:=c2 (by rw[hp];exact hn)
  simpa only [hp] using this
 ·obtain⟨c1,hn,c2⟩:=cnt_yes (f:=z6e (zf9 hs ws op dt)) hk e2;have hn2:zqu (z6e (zf9 hs ws op dt)) k<(zf9 hs ws op dt).length:=by rw[hp] at hn;exact hn
  have c3:(zf9 hs ws op dt)[zqu (z6e (zf9 hs ws op dt)) k]'hn2=x:=by
   simpa only [hp] using c2
  refine .inr ⟨e1,c1,hn2,?_⟩;rw[c3];exact⟨e3,e4,e5,e6⟩
theorem zr3 (x y:Hav)(W:World):(binOp .neq 44 (.agg #[.string x.path,.int .i64 x.num,.string x.loc]) (.agg #[.string y.path,.int .i64 y.num,.string y.loc])).run prog W=.ok (.bool (!decide (x=y))) W:=by
 obtain⟨a,b,c⟩:=x;obtain⟨d,e,f⟩:=y;rw[run_neq_struct,run_equalIn_agg W 9999 44 _ _ (by kernel_rfl) (by kernel_rfl)]
 simp [go_sem,Op.eqFields,ze7]
 by_cases h1:a=d <;> by_cases h2:b=e <;> by_cases h3:c=f <;> simp [h1,h2,h3]
theorem thR12 (ops:Array Oper)(hops:Tryz.f3.body.bind (zci 12)=some ops)(Q:Exit→Act→World→Prop)(V:World)(g3 gp k n ch:Nat)(Ah:Option Addr)(q:ByteArray)(v:Hav)(bo:Bool)
  (hC:∀ w',Below V.heap.size V w'→w'.cell? ⟨g3,4,none⟩=some (.slice Ah n ch)∧w'.cell? ⟨gp,k,none⟩=some (.string q)) (hk:(k:Int)<6)
  (hL:∀ X,Below V.heap.size V X→Calls prog 16 #[.slice Ah n ch,.string q] X fun e w'=>e=.returned (.tuple #[.agg #[.string v.path,.int .i64 v.num,.string v.loc],.bool bo])∧Below X.heap.size X w')
  (hQ:∀(fJ fK fL fM fN fO fP fQ fR fS:Value) (g:Nat) (w':World),Blk w' g 44 [.string v.path,.int .i64 v.num,.string v.loc]→Below V.heap.size V w'→Q .normal ⟨#[u0,u1,u2,.pointer (some ⟨g3,0,none⟩),u4,u5,u6,u7,u8,u9,.slice (some ⟨gp,0,none⟩) 6 6,.int .i64 k,gu,gx,.pointer (some ⟨g,0,none⟩),.bool bo,gA,gC,gD,gE,gF,gG,gH,gI,gJ,gK,gL,gM,gN,gO,gP,gQ,gR,gT,gV,gW,gX,gY,gZ,i6,i7,i8,ia,ib,ic,ie,ig,ii,ij,ik,il,im,io,ip,iq,ir,iu,iv,iw,ix,iy,iz,iA,iB,iC,iD,iE,iF,iG,iH,iI,iJ,iK,iL,iM,fJ,fK,fL,fM,fN,fO,fP,fQ,fR,fS,iX,iY,iZ,j0,j1,j2,j5,j6,j7,j8,j9,jb,jd,je,jf,bw,bz,bA,bB,bD,bE,bF,bG,bH,bI,bJ,bK,bL,bM,bN,bO,bP,bQ,bT,bU,bV,bW,bX,bY,bZ,ca,cj,ck,cn,cx,cy,cz,cA,cB,cD,cE,cG,cH,cI,cJ,cM,cN,cO,cP,cQ,cT,cU,cW,cZ,da,db,dc],[]⟩ w'):
  (Code.region 12 ops true).wp prog Q ⟨#[u0,u1,u2,.pointer (some ⟨g3,0,none⟩),u4,u5,u6,u7,u8,u9,.slice (some ⟨gp,0,none⟩) 6 6,.int .i64 k,gu,gx,gy,gz,gA,gC,gD,gE,gF,gG,gH,gI,gJ,gK,gL,gM,gN,gO,gP,gQ,gR,gT,gV,gW,gX,gY,gZ,i6,i7,i8,ia,ib,ic,ie,ig,ii,ij,ik,il,im,io,ip,iq,ir,iu,iv,iw,ix,iy,iz,iA,iB,iC,iD,iE,iF,iG,iH,iI,iJ,iK,iL,iM,iN,iO,iP,iQ,iR,iS,iT,iU,iV,iW,iX,iY,iZ,j0,j1,j2,j5,j6,j7,j8,j9,jb,jd,je,jf,bw,bz,bA,bB,bD,bE,bF,bG,bH,bI,bJ,bK,bL,bM,bN,bO,bP,bQ,bT,bU,bV,bW,bX,bY,bZ,ca,cj,ck,cn,cx,cy,cz,cA,cB,cD,cE,cG,cH,cI,cJ,cM,cN,cO,cP,cQ,cT,cU,cW,cZ,da,db,dc],[]⟩ V:=by
 simp only[Tryz.f3,Option.bind_some,zci] at hops
 simp at hops
 subst hops;have HQ:=hd_ hQ;have HLZ:=hd_ hL;have hVA:Below V.heap.size V (V.alloc (.cells #[.string ⟨#[]⟩,.int .i64 0,.string ⟨#[]⟩] 44)).drew:=((Below.refl _ _).alloc (Nat.le_refl _) _).drew;obtain⟨x0,x1⟩:=hC V (Below.refl _ _);obtain⟨y0,y1⟩:=hC _ hVA;clear hVA hC hQ hL;refine wp_region_noPanic ?_;go_region_law (first
  | (go_simp;go_at_call 16;refine (HLZ.out _ (by repeat (first | exact Below.refl _ _ | refine Below.drew ?_ | refine zcf ?_ _))).mono ?_;rintro e w8 ⟨rfl,hX8⟩;have hS8:Below V.heap.size V w8:=(by repeat (first | exact Below.refl _ _ | refine Below.drew ?_ | refine zcf ?_ _):Below V.heap.size V _).trans (hX8.mono (by simp));(try (have hblk:=Blk.below (Blk.drew' (z0l V [.string ⟨#[]⟩,.int .i64 0,.string ⟨#[]⟩] 44)) hX8 (by simp);have p0:w8.cell? ⟨V.heap.size,0,none⟩=some (.string ⟨#[]⟩):=hblk.cell 0;have p1:w8.cell? ⟨V.heap.size,1,none⟩=some (.int .i64 0):=hblk.cell 1;have p2:w8.cell? ⟨V.heap.size,2,none⟩=some (.string ⟨#[]⟩):=hblk.cell 2;have r0:w8.frozen? ⟨V.heap.size,0,none⟩=false:=hblk.frozen 0;have r1:w8.frozen? ⟨V.heap.size,1,none⟩=false:=hblk.frozen 1;have r2:w8.frozen? ⟨V.heap.size,2,none⟩=false:=hblk.frozen 2))))
 all_goals refine NoPanic.normal ?_
 all_goals first
  | exact HQ.out _ _ _ _ _ _ _ _ _ _ _ _ (setH hblk v) (belowH hS8 (Nat.le_refl _) v)
  | exact HQ.out _ _ _ _ _ _ _ _ _ _ _ _ (z0l w8 [.string v.path,.int .i64 v.num,.string v.loc] 44) (hS8.alloc hS8.size _)
theorem thR13 (ops:Array Oper)(hops:Tryz.f3.body.bind (zci 13)=some ops)(Q:Exit→Act→World→Prop)(V:World)(g12 g14:Nat)(a b:Hav)(b1 b2:Bool)(h12:Blk V g12 44 [.string a.path,.int .i64 a.num,.string a.loc])(h14:Blk V g14 44 [.string b.path,.int .i64 b.num,.string b.loc])
  (hQ:∀(fT fU fV fW fX fY fZ ga:Value),Q .normal ⟨#[u0,u1,u2,u3,u4,u5,u6,u7,u8,u9,gn,gt,.pointer (some ⟨g12,0,none⟩),.bool b1,.pointer (some ⟨g14,0,none⟩),.bool b2,.bool ((b1 != b2) || !decide (a=b)),gC,gD,gE,gF,gG,gH,gI,gJ,gK,gL,gM,gN,gO,gP,gQ,gR,gT,gV,gW,gX,gY,gZ,i6,i7,i8,ia,ib,ic,ie,ig,ii,ij,ik,il,im,io,ip,iq,ir,iu,iv,iw,ix,iy,iz,iA,iB,iC,iD,iE,iF,iG,iH,iI,iJ,iK,iL,iM,iN,iO,iP,iQ,iR,iS,iT,iU,iV,iW,fT,fU,fV,fW,fX,fY,fZ,ga,j7,j8,j9,jb,jd,je,jf,bw,bz,bA,bB,bD,bE,bF,bG,bH,bI,bJ,bK,bL,bM,bN,bO,bP,bQ,bT,bU,bV,bW,bX,bY,bZ,ca,cj,ck,cn,cx,cy,cz,cA,cB,cD,cE,cG,cH,cI,cJ,cM,cN,cO,cP,cQ,cT,cU,cW,cZ,da,db,dc],[]⟩ V):
  (Code.region 13 ops false).wp prog Q ⟨#[u0,u1,u2,u3,u4,u5,u6,u7,u8,u9,gn,gt,.pointer (some ⟨g12,0,none⟩),.bool b1,.pointer (some ⟨g14,0,none⟩),.bool b2,gA,gC,gD,gE,gF,gG,gH,gI,gJ,gK,gL,gM,gN,gO,gP,gQ,gR,gT,gV,gW,gX,gY,gZ,i6,i7,i8,ia,ib,ic,ie,ig,ii,ij,ik,il,im,io,ip,iq,ir,iu,iv,iw,ix,iy,iz,iA,iB,iC,iD,iE,iF,iG,iH,iI,iJ,iK,iL,iM,iN,iO,iP,iQ,iR,iS,iT,iU,iV,iW,iX,iY,iZ,j0,j1,j2,j5,j6,j7,j8,j9,jb,jd,je,jf,bw,bz,bA,bB,bD,bE,bF,bG,bH,bI,bJ,bK,bL,bM,bN,bO,bP,bQ,bT,bU,bV,bW,bX,bY,bZ,ca,cj,ck,cn,cx,cy,cz,cA,cB,cD,cE,cG,cH,cI,cJ,cM,cN,cO,cP,cQ,cT,cU,cW,cZ,da,db,dc],[]⟩ V:=by
 simp only[Tryz.f3,Option.bind_some,zci] at hops
 simp at hops
 subst hops;obtain⟨x0,x1,x2⟩:=z3s h12;obtain⟨y0,y1,y2⟩:=z3s h14;have hne:=fun W=>zr3 a b W;generalize decide (a=b)=d at hne hQ;have HQ:=hd_ hQ;clear hQ h12 h14;cases b1 <;> cases b2
 all_goals
  go_wp2_with fail;exact HQ.out _ _ _ _ _ _ _ _
theorem thR14 (ops:Array Oper)(hops:Tryz.f3.body.bind (zci 14)=some ops)(Q:Exit→Act→World→Prop)(V:World)(gp k n m c:Nat)(Ap:Option Addr)(q:ByteArray)(bo:Bool)(hp:V.cell? ⟨gp,k,none⟩=some (.string q))(hk:(k:Int)<6)
  (hy:(n<m∧∃ ad y,Ap=some ad∧z50 V (ad.add (n * 5)) y∧decide (y.path=q)=bo)∨¬ n<m∧bo=false)
  (hQ:∀(gb gf gg gh gi gj gm aa jg ab ac af ag ah ai aj:Value) (w':World),Below V.heap.size V w'→Q .normal ⟨#[u0,u1,u2,u3,u4,.slice Ap m c,u6,u7,u8,.int .i64 n,.slice (some ⟨gp,0,none⟩) 6 6,.int .i64 k,gu,gx,gy,gz,gA,.bool bo,gD,gE,gF,gG,gH,gI,gJ,gK,gL,gM,gN,gO,gP,gQ,gR,gT,gV,gW,gX,gY,gZ,i6,i7,i8,ia,ib,ic,ie,ig,ii,ij,ik,il,im,io,ip,iq,ir,iu,iv,iw,ix,iy,iz,iA,iB,iC,iD,iE,iF,iG,iH,iI,iJ,iK,iL,iM,iN,iO,iP,iQ,iR,iS,iT,iU,iV,iW,iX,iY,iZ,j0,j1,j2,j5,j6,gb,gf,gg,gh,gi,gj,gm,aa,jg,ab,ac,af,ag,ah,ai,aj,bI,bJ,bK,bL,bM,bN,bO,bP,bQ,bT,bU,bV,bW,bX,bY,bZ,ca,cj,ck,cn,cx,cy,cz,cA,cB,cD,cE,cG,cH,cI,cJ,cM,cN,cO,cP,cQ,cT,cU,cW,cZ,da,db,dc],[]⟩ w'):
  (Code.region 14 ops true).wp prog Q ⟨#[u0,u1,u2,u3,u4,.slice Ap m c,u6,u7,u8,.int .i64 n,.slice (some ⟨gp,0,none⟩) 6 6,.int .i64 k,gu,gx,gy,gz,gA,gC,gD,gE,gF,gG,gH,gI,gJ,gK,gL,gM,gN,gO,gP,gQ,gR,gT,gV,gW,gX,gY,gZ,i6,i7,i8,ia,ib,ic,ie,ig,ii,ij,ik,il,im,io,ip,iq,ir,iu,iv,iw,ix,iy,iz,iA,iB,iC,iD,iE,iF,iG,iH,iI,iJ,iK,iL,iM,iN,iO,iP,iQ,iR,iS,iT,iU,iV,iW,iX,iY,iZ,j0,j1,j2,j5,j6,j7,j8,j9,jb,jd,je,jf,bw,bz,bA,bB,bD,bE,bF,bG,bH,bI,bJ,bK,bL,bM,bN,bO,bP,bQ,bT,bU,bV,bW,bX,bY,bZ,ca,cj,ck,cn,cx,cy,cz,cA,cB,cD,cE,cG,cH,cI,cJ,cM,cN,cO,cP,cQ,cT,cU,cW,cZ,da,db,dc],[]⟩ V:=by
 simp only[Tryz.f3,Option.bind_some,zci] at hops
 simp at hops
 subst hops;have HQ:=hd_ hQ;have b0:=cell_regrown hp;clear hQ hp;rcases hy with⟨hn,ad,y,rfl,⟨s0,s1,s2,s3,s4⟩,hb⟩ | ⟨hn,rfl⟩
 ·have m1:=cell_regrown s1;have q1:(y.path.toList == q.toList)=bo:=by rw[z3x,hb]
  have hz:decide ((n:Int)<(m:Int))=true:=by simp;omega
  have hz2:(n:Int)<(m:Int):=by omega
  clear s0 s1 s2 s3 s4 hb;cases bo
  all_goals
   refine wp_region_quiet_below (by kernel_rfl) (by kernel_rfl) ?_
   repeat (first | go_big_quiet_step (fail) | quiet_step (fail))
   refine wpQuiet_nil ?_;intro _ hw9;obtain⟨⟨dq,osq⟩,hw9⟩:=hw9;subst hw9;exact HQ.out _ _ _ _ _ _ _ _ _ _ _ _ _ _ _ _ _ (below_regrown V dq osq)
 ·have hz:decide ((n:Int)<(m:Int))=false:=by simp;omega
  refine wp_region_quiet_below (by kernel_rfl) (by kernel_rfl) ?_
  repeat (first | go_big_quiet_step (fail) | quiet_step (fail))
  refine wpQuiet_nil ?_;intro _ hw9;obtain⟨⟨dq,osq⟩,hw9⟩:=hw9;subst hw9;exact HQ.out _ _ _ _ _ _ _ _ _ _ _ _ _ _ _ _ _ (below_regrown V dq osq)
theorem thR15 (ops:Array Oper)(hops:Tryz.f3.body.bind (zci 15)=some ops)(Q:Exit→Act→World→Prop)(V:World)(g12 g14 n m c:Nat)(Ap:Option Addr)(a b:Hav)(bo:Bool)(h12:Blk V g12 44 [.string a.path,.int .i64 a.num,.string a.loc])(h14:Blk V g14 44 [.string b.path,.int .i64 b.num,.string b.loc])
  (hy:bo=true→n<m∧∃ ad y,Ap=some ad∧z50 V (ad.add (n * 5)) y∧y.num=a.num∧y.frm=b.loc∧y.dst=a.loc)
  (hQ:∀(ak al am ao ap aq ar au aw ax ay az aA aB aC aD aE jh ji aF aG aH aI aJ aK aL aM aN aO aP aQ aR aS aT aU:Value) (w':World),Below V.heap.size V w'→Q .normal ⟨#[u0,u1,u2,u3,u4,.slice Ap m c,u6,u7,u8,.int .i64 n,gn,gt,.pointer (some ⟨g12,0,none⟩),gx,.pointer (some ⟨g14,0,none⟩),gz,.bool bo,.bool bo,gD,gE,gF,gG,gH,gI,gJ,gK,gL,gM,gN,gO,gP,gQ,gR,gT,gV,gW,gX,gY,gZ,i6,i7,i8,ia,ib,ic,ie,ig,ii,ij,ik,il,im,io,ip,iq,ir,iu,iv,iw,ix,iy,iz,iA,iB,iC,iD,iE,iF,iG,iH,iI,iJ,iK,iL,iM,iN,iO,iP,iQ,iR,iS,iT,iU,iV,iW,iX,iY,iZ,j0,j1,j2,j5,j6,j7,j8,j9,jb,jd,je,jf,bw,bz,bA,bB,bD,bE,bF,bG,bH,ak,al,am,ao,ap,aq,ar,au,aw,ax,ay,az,aA,aB,aC,aD,aE,jh,ji,aF,aG,aH,aI,aJ,aK,aL,aM,aN,aO,aP,aQ,aR,aS,aT,aU,.bool false,cT,cU,cW,cZ,da,db,dc],[]⟩ w'):
  (Code.region 15 ops true).wp prog Q ⟨#[u0,u1,u2,u3,u4,.slice Ap m c,u6,u7,u8,.int .i64 n,gn,gt,.pointer (some ⟨g12,0,none⟩),gx,.pointer (some ⟨g14,0,none⟩),gz,.bool bo,.bool bo,gD,gE,gF,gG,gH,gI,gJ,gK,gL,gM,gN,gO,gP,gQ,gR,gT,gV,gW,gX,gY,gZ,i6,i7,i8,ia,ib,ic,ie,ig,ii,ij,ik,il,im,io,ip,iq,ir,iu,iv,iw,ix,iy,iz,iA,iB,iC,iD,iE,iF,iG,iH,iI,iJ,iK,iL,iM,iN,iO,iP,iQ,iR,iS,iT,iU,iV,iW,iX,iY,iZ,j0,j1,j2,j5,j6,j7,j8,j9,jb,jd,je,jf,bw,bz,bA,bB,bD,bE,bF,bG,bH,bI,bJ,bK,bL,bM,bN,bO,bP,bQ,bT,bU,bV,bW,bX,bY,bZ,ca,cj,ck,cn,cx,cy,cz,cA,cB,cD,cE,cG,cH,cI,cJ,cM,cN,cO,cP,cQ,cT,cU,cW,cZ,da,db,dc],[]⟩ V:=by
 simp only[Tryz.f3,Option.bind_some,zci] at hops
 simp at hops
 subst hops;have HQ:=hd_ hQ;obtain⟨x0,x1,x2⟩:=z3s h12;obtain⟨y0,y1,y2⟩:=z3s h14;have e1:=cell_regrown x1;have e2:=cell_regrown x2;have f2:=cell_regrown y2;clear hQ h12 h14 x0 x1 x2 y0 y1 y2;cases bo
 ·clear hy;refine wp_region_quiet_below (by kernel_rfl) (by kernel_rfl) ?_
  repeat (first | go_big_quiet_step (fail) | quiet_step (fail))
  refine wpQuiet_nil ?_;intro _ hw9;obtain⟨⟨dq,osq⟩,hw9⟩:=hw9;subst hw9;exact HQ.out _ _ _ _ _ _ _ _ _ _ _ _ _ _ _ _ _ _ _ _ _ _ _ _ _ _ _ _ _ _ _ _ _ _ _ _ (below_regrown V dq osq)
 ·obtain⟨hn,ad,y,rfl,⟨s0,s1,s2,s3,s4⟩,k1,k2,k3⟩:=hy rfl;have m2:=cell_regrown s2;have m3:=cell_regrown s3;have m4:=cell_regrown s4;rw[k1] at m2;rw[k2] at m3;rw[k3] at m4;have hz2:(n:Int)<(m:Int):=by omega
  clear hy s0 s1 s2 s3 s4 k1 k2 k3;refine wp_region_quiet_below (by kernel_rfl) (by kernel_rfl) ?_
  repeat (first | go_big_quiet_step (fail) | quiet_step (fail))
  refine wpQuiet_nil ?_;intro _ hw9;obtain⟨⟨dq,osq⟩,hw9⟩:=hw9;subst hw9;exact HQ.out _ _ _ _ _ _ _ _ _ _ _ _ _ _ _ _ _ _ _ _ _ _ _ _ _ _ _ _ _ _ _ _ _ _ _ _ (below_regrown V dq osq)
end
theorem zr4 (L:List Int)(A:Option Addr)(c:Nat)(w:World)(he:Env w)(hL:Row w 1 (.slice A L.length c) L.length (L.map fun(n:Int)=>.int .i64 n))(hA:∀ ad,A=some ad→ad.block<w.heap.size):
  Calls prog 3 #[.slice A L.length c] w fun e w'=>e=.returned (.bool true)∧Below w.heap.size w w':=by
 have HMD:=hd_ (zpo L A c w he hL hA);have HKN:=hd_ (fun X (hX:Env X)=>zne X hX);clear he hL hA;go_enter func3,ntmps3;go_wp2_with fail;refine HMD.out.mono ?_;rintro e w1 ⟨dv,dr,mv,hv,ov,tv,U,g,D,k,es,ch,hs,op,dt,rfl,hsc,hat,-,-,-,hb1,hen,Aq,cq,rfl⟩;dsimp only;obtain⟨Ad,cd,rfl,-⟩:=id hat.revs;obtain⟨Am,cm,rfl,-⟩:=id hat.ents.1;obtain⟨Ah,chh,rfl,-⟩:=id hat.havs;obtain⟨Ao,co,rfl,-⟩:=id hat.opn;obtain⟨At,ct,rfl,-⟩:=id hat.drt;have HS:=hd_ (zqe (dr:=.slice Aq 0 cq) hsc hat hen);clear HMD hsc hat hen;go_upto_region 2 with fail;have HB2:=hd_ (zcf hb1 (.cells #[.slice Ad D.length cd,.slice Aq 0 cq,.slice Am es.length cm,.int .i64 ch,.slice Ah hs.length chh,.slice Ao op.length co,.slice At dt.length ct] 31));have HS2:=hd_ (HS.out.under ((Below.refl w1.heap.size w1).alloc (Nat.le_refl _) (.cells #[.slice Ad D.length cd,.slice Aq 0 cq,.slice Am es.length cm,.int .i64 ch,.slice Ah hs.length chh,.slice Ao op.length co,.slice At dt.length ct] 31)));have HX2:=hd_ (z0l w1 [.slice Ad D.length cd,.slice Aq 0 cq,.slice Am es.length cm,.int .i64 ch,.slice Ah hs.length chh,.slice Ao op.length co,.slice At dt.length ct] 31);clear HS hb1;generalize w1.alloc (.cells #[.slice Ad D.length cd,.slice Aq 0 cq,.slice Am es.length cm,.int .i64 ch,.slice Ah hs.length chh,.slice Ao op.length co,.slice At dt.length ct] 31)=W2 at HB2 HS2 HX2 ⊢;generalize w1.heap.size=g3 at HX2 ⊢;obtain⟨x0,x1,x2,x3,x4,x5,x6⟩:=zqf HX2.out;have HPL:=hd_ (HS2.out.plan ch hs op dt (.slice Ah hs.length chh) (.slice Ao op.length co) (.slice At dt.length ct) HS2.out.hv HS2.out.hl HS2.out.at_.havs HS2.out.at_.opn HS2.out.at_.drt HS2.out.opl HS2.out.dtl);go_wp2_with fail;refine HPL.out.mono ?_;rintro e w3 ⟨pv,rfl,hp,hb3⟩;dsimp only;obtain⟨Ap,cp,rfl,-⟩:=id hp;have HB3:=hd_ (z0r HB2.out hb3);have HS3:=hd_ (HS2.out.under hb3);have HX3:=hd_ (HX2.out.below hb3 HX2.out.lt);have HP3:=hd_ hp;clear hb3 HB2 HS2 HX2 HPL hp x0 x1 x2 x3 x4 x5 x6;obtain⟨x0,x1,x2,x3,x4,x5,x6⟩:=zqf HX3.out;have HWN:=hd_ (HS3.out.wanted ch);go_wp2_with fail
 refine HWN.out.mono ?_;rintro e w4 ⟨wv,rfl,hw,hb4⟩;dsimp only;have HB4:=hd_ (z0r HB3.out hb4);have HS4:=hd_ (HS3.out.under hb4);have HX4:=hd_ (HX3.out.below hb4 HX3.out.lt);have HP4:=hd_ (HP3.out.below hb4);have HW4:=hd_ hw;clear hb4 HB3 HS3 HX3 HWN HP3 hw x0 x1 x2 x3 x4 x5 x6;have HKW:=hd_ (HKN.out _ HS4.out.env);obtain⟨x0,x1,x2,x3,x4,x5,x6⟩:=zqf HX4.out;go_wp2_with fail;refine HKW.out.mono ?_;rintro e w5 ⟨rfl,hb5⟩;dsimp only;have HB5:=hd_ (z0r HB4.out hb5);have HS5:=hd_ (HS4.out.under hb5);have HX5:=hd_ (HX4.out.below hb5 HX4.out.lt);have HP5:=hd_ (HP4.out.below hb5);have HW5:=hd_ (HW4.out.below hb5);clear hb5 HB4 HS4 HX4 HKW HP4 HW4 x0 x1 x2 x3 x4 x5 x6 HKN;obtain⟨N,hN0,hN6,hNl,hNT⟩:=zr2 (op:=op) (dt:=dt) HS5.out.hv (HS5.out.wok (m:=ch)) HS5.out.h6 zfo;have HPN:Hid ((zf9 hs (zfk D (zdt es) ch) op dt).length≤1000):=hd_ (Nat.le_trans zn0 (by have:=HS5.out.hl;have:=HS5.out.wl (m:=ch);omega))
 have HWL:Hid ((zfk D (zdt es) ch).length≤1000):=hd_ (by have:=HS5.out.wl (m:=ch);omega)
 generalize zf9 hs (zfk D (zdt es) ch) op dt=pl at HP5 hN6 hNT HPN ⊢;generalize zfk D (zdt es) ch=ws at HW5 hNT HWL;have hpn:=HPN.out;have HN0:=hd_ hN0;have HN6:=hd_ hN6;have HNL:=hd_ hNl;have HNT:=hd_ hNT;clear hN0 hN6 hNl hNT;go_wp2_with fail;refine (zll _).mono ?_;rintro e v0 ⟨rfl,hv0⟩;dsimp only;rw[hv0];have ha:Below w5.heap.size w5 (w5.alloc (.cells (zff.map Value.string).toArray 9)):=(Below.refl _ _).alloc (Nat.le_refl _) _;have HB6:=hd_ (z0r HB5.out ha);have HS6:=hd_ (HS5.out.under ha);have HX6:=hd_ (HX5.out.below ha HX5.out.lt);have HP6:=hd_ (HP5.out.below ha);have HW6:=hd_ (HW5.out.below ha);have HG6:=hd_ (z0l w5 (zff.map Value.string) 9);clear hv0 ha HB5 HS5 HX5 HP5 HW5 HPN;generalize w5.alloc (.cells (zff.map Value.string).toArray 9)=W6 at HB6 HS6 HX6 HP6 HW6 HG6 ⊢;generalize w5.heap.size=gP at HG6 ⊢;go_wp2_with fail;go_loopw [9,11] (fun nv i wr=>∃ k:Nat,nv=.int .i64 (N k)∧i=.int .i64 k∧k≤6∧Hid (Below W6.heap.size W6 wr)) (fun _ i _=>6 - (intOf i).toNat)
 case atStart=>exact⟨0,by rw[HN0.out];rfl,rfl,by omega,Below.refl _ _⟩
 case round =>
  obtain⟨k,rfl,rfl,hk,HI⟩:=hrel;have hnk:N k≤k:=HNL.out k;by_cases hlt:k<6
  ·have hk6:k<zff.length:=hlt;have HT:=hd_ (HNT.out k hk6);have hq:W6.cell? ⟨gP,k,none⟩=some (.string (zff[k]'hk6)):=by rw[HG6.out.cell k,List.getElem?_map,List.getElem?_eq_getElem hk6];rfl
   have hz:(k:Int)<6:=by omega
   generalize zff[k]'hk6=q at hq HT;have HQ6:=hd_ hq;obtain⟨a,ha⟩:∃ a,a=(z6d ws q).getD zop:=⟨_,rfl⟩;obtain⟨b,hb⟩:∃ b,b=(z6d hs q).getD zop:=⟨_,rfl⟩;obtain⟨b1,hb1⟩:∃ b1,b1=(z6d ws q).isSome:=⟨_,rfl⟩;obtain⟨b2,hb2⟩:∃ b2,b2=(z6d hs q).isSome:=⟨_,rfl⟩;have HG1:Hid (∀ X,Below W6.heap.size W6 X→Calls prog 16 #[wv,.string q] X fun e w'=>e=.returned (.tuple #[.agg #[.string a.path,.int .i64 a.num,.string a.loc],.bool b1])∧Below X.heap.size X w'):=hd_ fun X hX=>by
    have h:=zqt ws wv q X (HW6.out.below hX) (by have:=HWL.out;omega)
    rw[ha,hb1];exact h
   have HG2:Hid (∀ X,Below W6.heap.size W6 X→Calls prog 16 #[.slice Ah hs.length chh,.string q] X fun e w'=>e=.returned (.tuple #[.agg #[.string b.path,.int .i64 b.num,.string b.loc],.bool b2])∧Below X.heap.size X w'):=hd_ fun X hX=>by
    have h:=zqt hs (.slice Ah hs.length chh) q X (HS6.out.under hX).at_.havs (by have:=HS6.out.hl;omega)
    rw[hb,hb2];exact h
   have HT2:Hid (((((b1 != b2) || !decide (a=b))=false∧N (k+1)=N k∧∀ hn:N k<pl.length,(pl[N k]'hn).path≠q) ∨
 (((b1 != b2) || !decide (a=b))=true∧N (k+1)=N k+1∧∃ hn:N k<pl.length,(pl[N k]'hn).path=q∧(pl[N k]'hn).num=a.num∧(pl[N k]'hn).frm=b.loc∧(pl[N k]'hn).dst=a.loc))):=hd_ (by
    rw[ha,hb,hb1,hb2];exact HT.out)
   have HQC:Hid (∀ X,Below W6.heap.size W6 X→X.cell? ⟨g3,4,none⟩=some (.slice Ah hs.length chh)∧X.cell? ⟨gP,k,none⟩=some (.string q)):=hd_ fun X hX=>⟨(HX6.out.below hX HX6.out.lt).cell 4,(hX.cell (p:=⟨gP,k,none⟩) HG6.out.lt).trans HQ6.out⟩;obtain⟨-,y0⟩:=HQC.out wr HI.out;clear ha hb hb1 hb2 hq HT HQ6;go_wp2_with fail;refine (HG1.out wr HI.out).mono ?_;rintro e v1 ⟨rfl,hv1⟩;dsimp only;have HB1:=hd_ (HI.out.trans (hv1.mono HI.out.size));clear hv1 y0 HG1;go_upto_region 12 with fail;have h12:=hd_ (z0l v1 [.string a.path,.int .i64 a.num,.string a.loc] 44);have HB2:=hd_ (zcf HB1.out (.cells #[.string a.path,.int .i64 a.num,.string a.loc] 44));generalize v1.alloc (.cells #[.string a.path,.int .i64 a.num,.string a.loc] 44)=V2 at h12 HB2 ⊢;generalize v1.heap.size=g12 at h12 ⊢;refine thR12 _ (by kernel_rfl) _ V2 g3 gP k hs.length chh Ah q b b2 (fun X hX=>HQC.out X (HB2.out.trans (hX.mono HB2.out.size))) hz (fun X hX=>HG2.out X (HB2.out.trans (hX.mono HB2.out.size))) ?_
   intro fJ fK fL fM fN fO fP fQ fR fS g14 v3 hb14 hv3;have H14:=hd_ hb14;have HB3:=hd_ (HB2.out.trans (hv3.mono HB2.out.size));have H12:=hd_ (h12.out.below hv3 h12.out.lt);clear hb14 hv3 HB2 HB1 h12 HG2;go_upto_region 13 with fail;refine thR13 _ (by kernel_rfl) _ v3 g12 g14 a b b1 b2 H12.out H14.out ?_
   intro fT fU fV fW fX fY fZ ga;generalize ((b1 != b2) || !decide (a=b))=bo at HT2 ⊢;have HY:Hid ((N k<pl.length∧∃ ad y,Ap=some ad∧z50 v3 (ad.add (N k * 5)) y∧decide (y.path=q)=bo)∨¬ N k<pl.length∧bo=false):=hd_ (by
    rcases HT2.out with⟨e1,e2,e3⟩ | ⟨e1,e2,hn,e3,-⟩
    ·by_cases hn:N k<pl.length
     ·obtain⟨ad,f1,-,f2⟩:=z4z.at_ (HP6.out.below HB3.out) hn;exact .inl ⟨hn,ad,_,f1,f2,by rw[e1];exact decide_eq_false (e3 hn)⟩
     ·exact .inr ⟨hn,e1⟩
    ·obtain⟨ad,f1,-,f2⟩:=z4z.at_ (HP6.out.below HB3.out) hn;exact .inl ⟨hn,ad,_,f1,f2,by rw[e1];exact decide_eq_true e3⟩)
   go_upto_region 14 with fail;refine thR14 _ (by kernel_rfl) _ v3 gP k (N k) pl.length cp Ap q bo (HQC.out v3 HB3.out).2 hz HY.out ?_
   intro gb gf gg gh gi gj gm aa jg ab ac af ag ah ai aj v4 hv4;have HB4:=hd_ (HB3.out.trans (hv4.mono HB3.out.size));have H14':=hd_ (H14.out.below hv4 H14.out.lt);have H12':=hd_ (H12.out.below hv4 H12.out.lt);clear hv4 H14 H12 HY HB3;have HZ:Hid (bo=true→N k<pl.length∧∃ ad y,Ap=some ad∧z50 v4 (ad.add (N k * 5)) y∧y.num=a.num∧y.frm=b.loc∧y.dst=a.loc):=hd_ (fun hbo=>by
    rcases HT2.out with⟨e1,-⟩ | ⟨e1,e2,hn,-,e4,e5,e6⟩
    ·rw[hbo] at e1;cases e1
    ·obtain⟨ad,f1,-,f2⟩:=z4z.at_ (HP6.out.below HB4.out) hn;exact⟨hn,ad,_,f1,f2,e4,e5,e6⟩)
   go_upto_region 15 with fail;refine thR15 _ (by kernel_rfl) _ v4 g12 g14 (N k) pl.length cp Ap a b bo H12'.out H14'.out HZ.out ?_
   intro ak al am ao ap aq ar au aw ax ay az aA aB aC aD aE jh ji aF aG aH aI aJ aK aL aM aN aO aP aQ aR aS aT aU v5 hv5;have HB5:=hd_ (HB4.out.trans (hv5.mono HB4.out.size));have HT3:Hid ((bo=false∧N (k+1)=N k)∨(bo=true∧N (k+1)=N k+1)):=hd_ (by
    rcases HT2.out with⟨e1,e2,-⟩ | ⟨e1,e2,-⟩
    ·exact .inl ⟨e1,e2⟩
    ·exact .inr ⟨e1,e2⟩)
   clear hv5 HT2 HZ HB4 H12' H14';rcases HT3.out with⟨rfl,e2⟩ | ⟨rfl,e2⟩
   ·have HE2:=hd_ e2;clear e2 HT3;go_wp2_with fail;go_roundw
    case rel=>exact⟨k+1,by rw[HE2.out],by go_num,by omega,HB5⟩
    case measure=>simp [intOf];omega
   ·have HE2:=hd_ e2;clear e2 HT3;go_wp2_with fail;go_roundw
    case rel=>exact⟨k+1,by rw[HE2.out];go_num,by go_num,by omega,HB5⟩
    case measure=>simp [intOf];omega
  ·have hke:k=6:=by omega
   have hz:¬((k:Int)<6):=by omega
   have hqe:((N k:Int) == (pl.length:Int))=true:=by rw[hke,HN6.out];simp
   have HB1:=hd_ (z0r HB6.out HI.out);clear HI hke;go_wp2_with fail;go_ret;exact⟨rfl,HB1.out⟩
end Go.Proofs.YtegeboijhifmcaaGreatDoor
/- SyncplanThrift: for every input the statement returns true and leaves its arguments as they were. No conditions. -/
namespace Go.Proofs.YtegeboijhifmcaaGreatDoor.syncplanThriftRow
open Go.Proofs.Tryz
open Go.ChangeShapes Go.WideShapes Go.ChangeAt Go.RowKit Go.Proofs.YtegeboijhifmcaaGreatDoor.cardBase
open Go.ChangeMaps (open_string shut_string)
theorem contract (H:Type)(enc:TypeId×Value→H)(W:World)(base:Nat)(args:Array Value)(ds gs:List (DataW H))(before:List MemPlace)
  (hval0:∀(j:Nat) t v,Tryz.f3.params[j]? = some t→args[j]? = some v→Value.okWide prog W .any base t v)
  (hW:DataW.Whole enc prog Tryz.f3.params.toList Rows.syncplanThriftSpec.vars false W args.toList ds gs before) (ts:List TypeId) (hwt:(DataW.weightsEach prog (Tryz.f3.params.toList++ts) (ds++gs)).all (·≤reachBytes)=true) (hsh:W.ShapedOpen prog):
  Calls prog 3 args W fun e W'=>∃ v,e=.returned v∧Rows.syncplanThriftSpec.post enc prog Tryz.f3 false true false false W args v W':=by
 have he:Env W:=env_of hsh;have hW':=hW;have hval:∀(j:Nat) t v,Tryz.f3.params[j]? = some t→args[j]? = some v→Value.okWide prog W .any base t v:=hval0;obtain⟨p,q,hA0,hV,rfl,hfz,hnd⟩:=hW;have hA:DataW.TrodAll enc prog W 0 (fun _=>true) true Tryz.f3.params.toList args.toList ds p:=hA0;rw[Tryz.params3] at hA hval;obtain⟨v0,vs0,d0,ds0,p0,q0,hargs,rfl,rfl,h0,r0⟩:=trodAll_cons hA;obtain⟨rfl,rfl,rfl⟩:=trodAll_nil r0;obtain rfl:args=#[v0]:=by cases args;simp_all
 obtain⟨rfl,rfl⟩:=trodVars_none hV;have k0:=h0;have lt0:∀ x∈p0,x.block<W.heap.size:=by obtain⟨m,hm⟩:=k0;exact DataW.trod_lt m _ _ _ hm
 obtain⟨l0,A0,c0,rfl,b0,z0⟩:=zps underlying22 underlying3 (by kernel_rfl) (hval 0 22 v0 rfl rfl) h0
 clear hA0 hval0;refine (zr4 l0 A0 c0 W he b0 z0).mono fun e W' ⟨he,bel⟩=>?_;subst he;exact⟨_,rfl,_,_,_,[],_,[],hW',trodAll_mk1 (shut_bool underlying4 _),(trodAll_cons_mk (Below.trod laidOut (by kernel_rfl) (of_decide_eq_true (by kernel_rfl)) k0 bel lt0) trodAll_mk0),rfl,bel.frame _,fun h=>by cases h⟩
theorem laid_met (os:Os):laidMet prog Rows.syncplanThriftRow.laid ((laidWorld os).forCall (fun _ _=>0) ⟨#[],#[.slice none 0 0],[]⟩).memory:=
 laidMet_of_run' 8 (by kernel_rfl) (by kernel_rfl)
theorem reads (os:Os){H:Type}(enc:TypeId×Value→H):∃ places,DataW.whole enc prog ((laidWorld os).forCall (fun _ _=>0) ⟨#[],#[.slice none 0 0],[]⟩).memory Tryz.f3.params.toList Rows.syncplanThriftSpec.vars false (#[.slice none 0 0]:Array Value).toList 8=some ([.nil],[],places):=
 ⟨[],by kernel_rfl⟩
theorem lifted (os:Os)(started:os.Started)(H:Type)(enc:TypeId×Value→H)(F:Stop.Interp):
  ReturnsInHanded {} Tryz.checked os 3 .any ((OpenSpec.ofChange Rows.syncplanThriftSpec).preRow enc prog Tryz.f3 Rows.syncplanThriftRow.domain false Rows.syncplanThriftRow.laid) (((OpenSpec.ofChange Rows.syncplanThriftSpec).at F).post enc prog Tryz.f3 false true false false):=by
 obtain⟨places,hx⟩:=reads os enc;refine returnsInHanded_of_row (C:=Tryz.checked) (s:=OpenSpec.ofChange Rows.syncplanThriftSpec) own started (by kernel_rfl) func3
  (witness_row_at (enc:=enc) (C:=Tryz.checked) false (laidWorld os) #[.slice none 0 0] rfl (by kernel_rfl) (by kernel_rfl) (by kernel_rfl)
   (OpenSpec.preRow_of_cond 8 hx (by kernel_rfl) (fun k hk=>by cases hk) (by kernel_rfl) (laid_met os))) ?_
 intro W base args ds gs before hval hW _ _ hwt _ hsh _;exact contract H enc W base args ds gs before hval hW _ hwt hsh
end Go.Proofs.YtegeboijhifmcaaGreatDoor.syncplanThriftRow
/- SyncplanThrift: for every input the statement returns true and leaves its arguments as they were. No conditions. -/
namespace Go.Proofs.YtegeboijhifmcaaGreatDoor.syncplanThriftRow
open Go.Proofs.Tryz
open Go.ChangeShapes Go.WideShapes Go.ChangeAt Go.RowKit Go.Proofs.YtegeboijhifmcaaGreatDoor.cardBase
open Go.ChangeMaps (open_string shut_string)
theorem said:Rows.SyncplanThriftSaid:=
 OpenClaim.holds_of_cond 3 Tryz.f3 rfl rfl rfl rfl rfl rfl rfl ⟨rfl,rfl,rfl,rfl,rfl⟩ rfl rfl rfl rfl rfl (by as_aux_lemma=>kernel_rfl) func3 (by
   unfold joinedFacts;simp only[Bool.and_eq_true]
   repeat' apply And.intro
   all_goals (as_aux_lemma=>kernel_rfl))
  (of_decide_eq_true (by as_aux_lemma=>kernel_rfl)) (by unfold Func.isWrapper;first | (rw[if_pos (by decide +kernel)];kernel_rfl) | (rw[if_neg (by decide +kernel)];exact⟨rfl,rfl⟩))
  (fun os started H enc _ F=>by rw[OpenClaim.pre_eq_preRow];exact lifted os started H enc F)
end Go.Proofs.YtegeboijhifmcaaGreatDoor.syncplanThriftRow
