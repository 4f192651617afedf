/- A part of the proof. -/
import Derived.Test.YtegeboijhifmcaaGreatDoorMgw19
import Derived.Test.YtegeboijhifmcaaGreatDoorMgw18
import Derived.Test.YtegeboijhifmcaaGreatDoorMgw20
set_option linter.unusedVariables false
set_option linter.unusedSimpArgs false
set_option maxHeartbeats 8000000
set_option maxRecDepth 100000
namespace Go.Proofs.YtegeboijhifmcaaGreatDoor
open Go.Proofs.Tryz
open Go.RowKit
theorem z6t.onto {S:List Nat}{w W w':World}(h:z6t S w W)(hb:Below w.heap.size W w'):z6t S w w':=
 ⟨hb.os.trans h.os,hb.tape.trans h.tape,hb.output.trans h.output,Nat.le_trans h.size hb.size,fun k hk hs=>(hb.block k hk).trans (h.block k hk hs)⟩
theorem zgf.onto {w W w':World}{U g m:Nat}(h:zgf W U g m)(hU:U≤w.heap.size)(hb:Below w.heap.size W w'):zgf w' U g m:=h.keep hb.size fun x hx=>hb.block x (by omega)
def WtPost (w:World)(U g m:Nat)(e:Ending)(w':World):Prop:=∃ ty:Ty,e=.returned ty.val∧zgf w' U g m∧z6t [g] w w'
theorem wt_ret (U g m:Nat)(w w2:World)(ty:Ty)(hB:Blk w2 w.heap.size 61 [.int .i64 0,.bool false,.bool false,.bool false])(hT:zgf w2 U g m)(hK:z6t [g] w w2)(hU:U≤w.heap.size)(u0 u1 u3 u4 u5 u6 u7 u8 u9 gn gt gu gx gy gz gA:Value):
  bodyPost prog Tryz.f92 (WtPost w U g m) .ret ⟨#[u0,u1,.pointer (some ⟨w.heap.size,0,none⟩),u3,u4,u5,u6,u7,u8,u9,gn,gt,gu,gx,gy,gz,gA],[]⟩ ((((w2.setCell ⟨w.heap.size,0,none⟩ (.int .i64 ty.base)).setCell ⟨w.heap.size,1,none⟩ (.bool ty.k)).setCell ⟨w.heap.size,2,none⟩ (.bool ty.l)).setCell ⟨w.heap.size,3,none⟩ (.bool ty.x)):=by
 have hE:=(((hB.set_ 0 (.int .i64 ty.base)).set_ 1 (.bool ty.k)).set_ 2 (.bool ty.l)).set_ 3 (.bool ty.x);have hb:=(((((Below.refl w.heap.size w2).setCell (p:=⟨w.heap.size,0,none⟩) (by simp) (.int .i64 ty.base)).setCell (p:=⟨w.heap.size,1,none⟩) (by simp) (.bool ty.k)).setCell (p:=⟨w.heap.size,2,none⟩) (by simp) (.bool ty.l)).setCell (p:=⟨w.heap.size,3,none⟩) (by simp) (.bool ty.x))
 generalize (((w2.setCell ⟨w.heap.size,0,none⟩ (.int .i64 ty.base)).setCell ⟨w.heap.size,1,none⟩ (.bool ty.k)).setCell ⟨w.heap.size,2,none⟩ (.bool ty.l)).setCell ⟨w.heap.size,3,none⟩ (.bool ty.x)=W8 at hE hb ⊢;have e0:=hE.cell 0;have e1:=hE.cell 1;have e2:=hE.cell 2;have e3:=hE.cell 3;exact bodyPost_ret (v:=ty.val) (by simp [results,results92,go_sem,e0,e1,e2,e3,Ty.val]) rfl ⟨ty,rfl,hT.onto hU hb,hK.onto hb⟩
theorem zmv (U g m:Nat)(w:World)(hT:zgf w U g m)(hU:U≤w.heap.size)(hm:m≤100000):
  Calls prog 92 #[.pointer (some ⟨g,0,none⟩)] w (WtPost w U g (m+1)):=by
 have hg:=hT.lt;obtain⟨W1,hW1⟩:∃ W,W=(w.alloc (.cells #[.int .i64 0,.bool false,.bool false,.bool false] 61)).alloc (.cells #[.int .i64 1,.bool false,.bool false,.bool false,.int .i64 2,.bool false,.bool false,.bool false,.int .i64 1,.bool true,.bool false,.bool false,.int .i64 2,.bool false,.bool false,.bool true,.int .i64 3,.bool false,.bool false,.bool false] 61):=⟨_,rfl⟩;have hA:Below w.heap.size w W1:=by rw[hW1];exact ((Below.refl _ _).alloc (Nat.le_refl _) _).alloc (by simp) _
 have hB0:Blk W1 w.heap.size 61 [.int .i64 0,.bool false,.bool false,.bool false]:=by rw[hW1];exact (z0l w _ _).alloc _
 have hB1:Blk W1 (w.heap.size+1) 61 [.int .i64 1,.bool false,.bool false,.bool false,.int .i64 2,.bool false,.bool false,.bool false,.int .i64 1,.bool true,.bool false,.bool false,.int .i64 2,.bool false,.bool false,.bool true,.int .i64 3,.bool false,.bool false,.bool false]:=by
  rw[hW1];have:=z0l (w.alloc (.cells #[.int .i64 0,.bool false,.bool false,.bool false] 61)) [.int .i64 1,.bool false,.bool false,.bool false,.int .i64 2,.bool false,.bool false,.bool false,.int .i64 1,.bool true,.bool false,.bool false,.int .i64 2,.bool false,.bool false,.bool true,.int .i64 3,.bool false,.bool false,.bool false] 61;simp only[World.size_alloc] at this
  exact this
 have HN:=hd_ (zgg U g m 5 W1 (hT.below hA) (by omega) (by omega))
 have HW:=hd_ hW1;have HB:=hd_ (And.intro hB0 hB1);have HA:=hd_ (z6t.below (S:=[g]) hA);have HU:=hd_ hU;have HG:Hid (w.heap.size∉[g]∧w.heap.size+1∉[g]):=hd_ (by simp;omega)
 clear hT hA hW1 hB0 hB1 hU;go_enter func92,ntmps92;go_upto_region 2 with fail;rw[← HW.out];go_wp2_with fail;refine HN.out.mono ?_;rintro e w2 ⟨k,rfl,hk,hT2,hK2⟩;dsimp only;have HX:Hid (Blk _ _ _ _):=hd_ (hK2.blk HB.out.1 HG.out.1);have hY:=hK2.blk HB.out.2 HG.out.2;obtain⟨y0,y1,y2,y3,y4,y5,y6,y7,y8,y9⟩:=(⟨hY.cell 0,hY.cell 1,hY.cell 2,hY.cell 3,hY.cell 4,hY.cell 5,hY.cell 6,hY.cell 7,hY.cell 8,hY.cell 9⟩:w2.cell? ⟨w.heap.size+1,0,none⟩=some (.int .i64 1)∧w2.cell? ⟨w.heap.size+1,1,none⟩=some (.bool false)∧w2.cell? ⟨w.heap.size+1,2,none⟩=some (.bool false)∧w2.cell? ⟨w.heap.size+1,3,none⟩=some (.bool false)∧w2.cell? ⟨w.heap.size+1,4,none⟩=some (.int .i64 2)∧w2.cell? ⟨w.heap.size+1,5,none⟩=some (.bool false)∧w2.cell? ⟨w.heap.size+1,6,none⟩=some (.bool false)∧w2.cell? ⟨w.heap.size+1,7,none⟩=some (.bool false)∧w2.cell? ⟨w.heap.size+1,8,none⟩=some (.int .i64 1)∧w2.cell? ⟨w.heap.size+1,9,none⟩=some (.bool true));obtain⟨z0,z1,z2,z3,z4,z5,z6,z7,z8,z9⟩:=(⟨hY.cell 10,hY.cell 11,hY.cell 12,hY.cell 13,hY.cell 14,hY.cell 15,hY.cell 16,hY.cell 17,hY.cell 18,hY.cell 19⟩:w2.cell? ⟨w.heap.size+1,10,none⟩=some (.bool false)∧w2.cell? ⟨w.heap.size+1,11,none⟩=some (.bool false)∧w2.cell? ⟨w.heap.size+1,12,none⟩=some (.int .i64 2)∧w2.cell? ⟨w.heap.size+1,13,none⟩=some (.bool false)∧w2.cell? ⟨w.heap.size+1,14,none⟩=some (.bool false)∧w2.cell? ⟨w.heap.size+1,15,none⟩=some (.bool true)∧w2.cell? ⟨w.heap.size+1,16,none⟩=some (.int .i64 3)∧w2.cell? ⟨w.heap.size+1,17,none⟩=some (.bool false)∧w2.cell? ⟨w.heap.size+1,18,none⟩=some (.bool false)∧w2.cell? ⟨w.heap.size+1,19,none⟩=some (.bool false));obtain⟨x0,x1,x2,x3⟩:=(⟨HX.out.cell 0,HX.out.cell 1,HX.out.cell 2,HX.out.cell 3⟩:w2.cell? ⟨w.heap.size,0,none⟩=some (.int .i64 0)∧w2.cell? ⟨w.heap.size,1,none⟩=some (.bool false)∧w2.cell? ⟨w.heap.size,2,none⟩=some (.bool false)∧w2.cell? ⟨w.heap.size,3,none⟩=some (.bool false));obtain⟨f0,f1,f2,f3⟩:=(⟨HX.out.frozen 0,HX.out.frozen 1,HX.out.frozen 2,HX.out.frozen 3⟩:w2.frozen? ⟨w.heap.size,0,none⟩=false∧w2.frozen? ⟨w.heap.size,1,none⟩=false∧w2.frozen? ⟨w.heap.size,2,none⟩=false∧w2.frozen? ⟨w.heap.size,3,none⟩=false)
 have h5:k=0∨k=1∨k=2∨k=3∨k=4:=by obtain⟨a,b,-⟩:=hk;have:=b (by omega);omega
 have HT2:=hd_ hT2;have HK2:=hd_ (HA.out.trans hK2);have HFI:=hd_ (fun ty=>wt_ret U g (m+1) w w2 ty HX.out HT2.out HK2.out HU.out);clear hk hT2 hK2 hY HN;rcases h5 with rfl | rfl | rfl | rfl | rfl
 ·go_wp2_with fail;exact HFI.out ⟨1,false,false,false⟩ _ _ _ _ _ _ _ _ _ _ _ _ _ _ _ _
 ·go_wp2_with fail;exact HFI.out ⟨2,false,false,false⟩ _ _ _ _ _ _ _ _ _ _ _ _ _ _ _ _
 ·go_wp2_with fail;exact HFI.out ⟨1,true,false,false⟩ _ _ _ _ _ _ _ _ _ _ _ _ _ _ _ _
 ·go_wp2_with fail;exact HFI.out ⟨2,false,false,true⟩ _ _ _ _ _ _ _ _ _ _ _ _ _ _ _ _
 ·go_wp2_with fail;exact HFI.out ⟨3,false,false,false⟩ _ _ _ _ _ _ _ _ _ _ _ _ _ _ _ _
open Go.Sort (grow)
theorem zno (p:Pat)(A:Option Addr)(c:Nat)(w:World)(hp:za9 w (.slice A p.parts.length c) p)(hn:zcm p):
  Calls prog 245 #[.agg #[.slice A p.parts.length c,.bool true]] w fun e w'=>e=.returned (.int .i64 1)∧Below w.heap.size w w':=by
 have hA:Below w.heap.size w (w.alloc (.cells #[.slice A p.parts.length c,.bool true] 97)):=(Below.refl _ _).alloc (Nat.le_refl _) _;have h2:zbo (w.alloc (.cells #[.slice A p.parts.length c,.bool true] 97)) w.heap.size (.slice A p.parts.length c) true:=z0l w [.slice A p.parts.length c,.bool true] 97;have HK:Hid (Calls prog 182 #[.agg #[.slice A p.parts.length c,.bool true]] (w.alloc (.cells #[.slice A p.parts.length c,.bool true] 97)) fun e w'=>e=.returned (.tuple #[.int .i64 0,.bool true])∧Below (w.alloc (.cells #[.slice A p.parts.length c,.bool true] 97)).heap.size (w.alloc (.cells #[.slice A p.parts.length c,.bool true] 97)) w'):=hd_ (by
  have:=zni p A c _ (hp.below hA) hn.pat;rw[hn.rest] at this;refine this.mono ?_;rintro e w' ⟨rfl,hb⟩;rw[zct hn,hn.rest];exact⟨rfl,hb⟩)
 have HA:=hd_ hA;have x0:=h2.c0;have x1:=h2.c1;clear hp hn hA h2;go_enter func245,ntmps245;go_wp2_with fail;refine HK.out.mono ?_;rintro e w2 ⟨rfl,hb⟩;dsimp only;have HB:=hd_ (z0r HA.out hb);clear hb x0 x1;go_wp2_with fail;go_ret;exact⟨rfl,HB.out⟩
theorem Row.empty {w w':World}{size n:Nat}{v:Value}{xs:List Value}(h:Row w size v n xs)(hn:n=0):Row w' size v n xs:=by
 obtain⟨A,c,e,hc,hm,hl,h0,-⟩:=h;exact⟨A,c,e,hc,hm,hl,h0,fun h=>absurd h (by omega)⟩
theorem zcs.setB {w wr:World}{g4 g11:Nat}{v:Value}{b b2:Bool}{l:List ByteArray}(h:zcs w wr g4 g11 v b l):zcs w (wr.setCell ⟨g11,1,none⟩ (.bool b2)) g4 g11 v b2 l:=
 ⟨h.low.setCell (p:=⟨g11,1,none⟩) (by show w.heap.size≤g11;have:=h.le4;have:=h.le;omega) _,h.le4,h.le,Blk.far h.box4 (by show g11≠g4;have:=h.le;omega) _,Blk.set_ h.box 1 _,z4r h.own (p:=⟨g11,1,none⟩) h.ne _,h.ne4,h.ne⟩
theorem sbR29 (ops:Array Oper)(hops:Tryz.f219.body.bind (zci 29)=some ops)(Q:Exit→Act→World→Prop)(w V:World)(g4 g7 g14 n m c7 c:Nat)(A7 C:Option Addr)(l l2:List ByteArray)
  (hI:zcs w V g4 g7 (.slice A7 n c7) false l) (hBB:Blk V g14 282 [.slice C m c,.bool true]) (hS:Strs V (.slice C m c) l2) (hl:l.length=n) (hm:l2.length=m) (hle:n+m≤12) (hne:g14≠g7) (hno:(Value.slice A7 n c7).ownBlock≠some g14) (hCne:0<m→∀ ad,C=some ad→ad.block≠g7)
  (u0 u1 u2 u3 u4 u5 u6 u8 u9 gn gt gu gx gz gA gC gD gE gF gG gH gI gJ gK gL gM gN gO gP gQ gR gT gV gW gX gY gZ i6 i7 i8 ia ib ic ie ig ii ij ik il im io ip iq ir iu iv iw ix iy iz iA iB iC iD iE iF iG iH iI iJ iK iL iM iN iO iP iQ iR iS iT iU iV iW iX iY iZ j0 j1 j2 j5 j6 j7 j8 j9 jb jd je jf bw bz bA bB bD bE bF bG bH bI bJ bK bL bM bN bO bP bQ bT bU bV:Value)
  (hQ:∀(ah ai aj ak al am ao ap aq:Value) (A':Option Addr) (c':Nat) (w':World),Hid (zcs w w' g4 g7 (.slice A' (n+m) c') true (l++l2))→Q .normal ⟨#[u0,u1,u2,u3,u4,u5,u6,.pointer (some ⟨g7,0,none⟩),u8,u9,gn,gt,gu,gx,.pointer (some ⟨g14,0,none⟩),gz,gA,gC,gD,gE,gF,gG,gH,gI,gJ,gK,gL,gM,gN,gO,gP,gQ,gR,gT,gV,gW,gX,gY,gZ,i6,i7,i8,ia,ib,ic,ie,ig,ii,ij,ik,il,im,io,ip,iq,ir,iu,iv,iw,ix,iy,iz,iA,iB,iC,iD,iE,iF,iG,iH,iI,iJ,iK,iL,iM,iN,iO,iP,iQ,iR,iS,iT,iU,iV,iW,iX,iY,iZ,j0,j1,j2,j5,j6,j7,j8,j9,jb,jd,je,jf,bw,bz,bA,bB,bD,bE,ah,ai,aj,ak,al,am,ao,ap,aq,bO,bP,bQ,bT,bU,bV],[]⟩ w'):
  (Code.region 29 ops true).wp prog Q ⟨#[u0,u1,u2,u3,u4,u5,u6,.pointer (some ⟨g7,0,none⟩),u8,u9,gn,gt,gu,gx,.pointer (some ⟨g14,0,none⟩),gz,gA,gC,gD,gE,gF,gG,gH,gI,gJ,gK,gL,gM,gN,gO,gP,gQ,gR,gT,gV,gW,gX,gY,gZ,i6,i7,i8,ia,ib,ic,ie,ig,ii,ij,ik,il,im,io,ip,iq,ir,iu,iv,iw,ix,iy,iz,iA,iB,iC,iD,iE,iF,iG,iH,iI,iJ,iK,iL,iM,iN,iO,iP,iQ,iR,iS,iT,iU,iV,iW,iX,iY,iZ,j0,j1,j2,j5,j6,j7,j8,j9,jb,jd,je,jf,bw,bz,bA,bB,bD,bE,bF,bG,bH,bI,bJ,bK,bL,bM,bN,bO,bP,bQ,bT,bU,bV],[]⟩ V:=by
 simp only[Tryz.f219,Option.bind_some,zci] at hops
 simp at hops
 subst hops;have HQ:=hd_ hQ;have HI:=hd_ hI;obtain⟨x0,x1,f0,f1⟩:=(⟨hI.box.c0,hI.box.c1,hI.box.frozen 0,hI.box.frozen 1⟩:V.cell? ⟨g7,0,none⟩=some (.slice A7 n c7)∧V.cell? ⟨g7,1,none⟩=some (.bool false)∧V.frozen? ⟨g7,0,none⟩=false∧V.frozen? ⟨g7,1,none⟩=false);obtain⟨b0,b1⟩:=(⟨hBB.cell 0,hBB.cell 1⟩:V.cell? ⟨g14,0,none⟩=some (.slice C m c)∧V.cell? ⟨g14,1,none⟩=some (.bool true));have n1:¬(g14=g7):=hne;have n2:¬(g7=g14):=fun e=>hne e.symm;subst hl hm;have hOW:=hI.own;have hWW:w.heap.size≤V.heap.size:=hI.low.size;have HOWN:=hd_ hOW;have HS:=hd_ hS;have HONE:Hid (∀ v∈l2.map Value.string,v.oneCell'=true):=hd_ (fun v hv=>by obtain⟨x,-,rfl⟩:=List.mem_map.1 hv;rfl)
 have HBB:=hd_ hBB;have HI2:=hd_ (hI.setB (b2:=true));have HS2:Hid (Strs (V.setCell ⟨g7,1,none⟩ (.bool true)) (.slice C l2.length c) l2):=hd_ (by
  rcases Nat.eq_zero_or_pos l2.length with h0 | h0
  ·exact Row.empty hS h0
  ·refine Row.set_far hS ?_;intro e;cases C with
   | none=>cases e
   | some ad=>exact hCne h0 ad rfl (by simpa [Value.ownBlock] using e))
 have HNO:=hd_ hno;clear hQ hI hOW hS hBB hCne hno;refine wp_region_noPanic ?_;go_region_law (first
   | (refine zce (base:=w.heap.size) rfl rfl zln HOWN.out (by simp [Act.eval,Act.put];done) HS.out (by simp [Act.eval,Act.put];done) HONE.out (by omega) (by unfold maxLen;omega) hWW ?_;intro A5 c5 w5 hO5 hG5 hw5;have hb5:=Blk.grown (Blk.drew' HI.out.box) hG5 (fun e=>HI.out.ne e.symm);have k5:=Blk.frozen hb5 0;have k6:=Blk.frozen hb5 1;have k7:=Blk.cell hb5 0;have k8:=Blk.cell hb5 1;have k9:=(Blk.grown (Blk.drew' HBB.out) hG5 (fun e=>HNO.out e.symm)).cell 1)
   | (refine zce (base:=w.heap.size) rfl rfl zln HI2.out.own (by simp [Act.eval,Act.put];done) HS2.out (by simp [Act.eval,Act.put];done) HONE.out (by omega) (by unfold maxLen;omega) hWW ?_;intro A5 c5 w5 hO5 hG5 hw5;have hb5:=Blk.grown (Blk.drew' HI2.out.box) hG5 (fun e=>HI2.out.ne e.symm);have k5:=Blk.frozen hb5 0;have k6:=Blk.frozen hb5 1;have k7:=Blk.cell hb5 0;have k8:=Blk.cell hb5 1))
 all_goals first
  | exact NoPanic.normal (HQ.out _ _ _ _ _ _ _ _ _ _ _ _ (hd_ ((HI.out.app (m:=l2) rfl hO5 ⟨hG5.os,hG5.tape,hG5.output,hG5.size,hG5.block⟩ hw5).setB (b2:=true))))
  | exact NoPanic.normal (HQ.out _ _ _ _ _ _ _ _ _ _ _ _ (hd_ (HI2.out.app (m:=l2) rfl hO5 ⟨hG5.os,hG5.tape,hG5.output,hG5.size,hG5.block⟩ hw5)))
def zoy (b:UInt8):Value:=.int .u8 b.toNat
def zoz (w:World)(base:Nat)(v:Value)(n:Nat):Prop:=∃ g cap cur fz,v=.slice (some ⟨g,0,none⟩) n cap∧base≤g∧w.heap[g]? = some (.cells cur 5 fz)∧(∀ o,o<cur.size→¬(fz.1≤o∧o<fz.2))∧n≤cap∧cap≤maxLen∧cur.size=cap∧∃ bs:List UInt8,bs.length=n∧cur.toList.take n=bs.map zoy
theorem zp0:z0e prog 201 5 1 1:=z0f underlying201 (z:=.int .u8 0) (by kernel_rfl) rfl (by decide)
section
variable {w w' : World} {base n : Nat} {v : Value}
theorem zoz.row (h:zoz w base v n):∃ l:List UInt8,l.length=n∧Bytes w v l:=by
 obtain⟨g,cap,cur,fz,rfl,hb,hg,hf,hn,hc,hs,bs,rfl,ht⟩:=h;refine⟨bs,rfl,_,cap,rfl,hn,hc,by simp,fun h=>(by cases h),fun _=>⟨_,rfl,(Array.getElem?_eq_some_iff.1 hg).1,fun j u hu=>?_⟩⟩
 rw[Addr.add_lit,cell_of_row w g _ cur _ fz hg];have hu2:(bs.map zoy)[j]? = some u:=hu;rw[← ht,List.getElem?_take] at hu2;split at hu2
 ·simpa using hu2
 ·cases hu2
theorem zoz.keepAt (h:zoz w base v n)(hk:∀ x,base≤x→x<w.heap.size→v.ownBlock=some x→w'.heap[x]? = w.heap[x]?):zoz w' base v n:=by
 obtain⟨g,cap,cur,fz,rfl,hb,hg,h⟩:=h;exact⟨g,cap,cur,fz,rfl,hb,(hk g hb (Array.getElem?_eq_some_iff.1 hg).1 rfl).trans hg,h⟩
theorem zoz.lt (h:zoz w base v n):∀ x,v.ownBlock=some x→base≤x∧x<w.heap.size:=by
 obtain⟨g,cap,cur,fz,rfl,hb,hg,-⟩:=h;intro x hx;injection hx with hx
 subst hx;exact⟨hb,(Array.getElem?_eq_some_iff.1 hg).1⟩
theorem zp1 (P:Program)(g o:Nat)(t:TypeId)(fz:Nat×Nat)(u:Value)(cur:Array Value)(w:World)(hg:w.heap[g]? = some (.cells cur t fz))(hfz:¬(fz.1≤o∧o<fz.2))(ho:o<cur.size)(h1:u.oneCell'=true):
  (storeCells ⟨g,o,none⟩ [u] 0).run P w=.ok () (w.setRow g (cur.setIfInBounds o u)):=by
 have hadd:(⟨g,o,none⟩:Addr).add 0=⟨g,o,none⟩:=by unfold Addr.add;simp
 have hcell:w.cell? ⟨g,o,none⟩=some cur[o]:=by simp [World.cell?,hg,ho]
 have hfro:w.frozen? ⟨g,o,none⟩=false:=by
  obtain⟨lo,hi'⟩:=fz;simp only[World.frozen?,hg,Bool.and_eq_false_iff,decide_eq_false_iff_not]
  simp only at hfz
  omega
 have hst:(store ((⟨g,o,none⟩:Addr).add 0) u).run P w=.ok () (w.setRow g (cur.setIfInBounds o u)):=by
  rw[hadd,run_store P w _ u _ h1,hcell];simp [hfro,setCell_eq_setRow w g o cur t fz u hg]
 simp only[storeCells,Sem.run_bind,hst,Result.andThen_ok]
 rfl
theorem zp2 (ty:TypeId)(hown:zoz w base v n){ad:Addr}{c:Nat}(x:UInt8)(hx:w.cell? ad=some (zoy x))(hn:n≤1000000)(hbase:base≤w.heap.size):
  ∃ A' c' w',(Builtin.append_ #[201,201] ty #[v,.slice (some ad) 1 c]).run prog w=.ok (.slice A' (n+1) c') w'∧zoz w' base (.slice A' (n+1) c') (n+1)∧w.grownBy w' v.ownBlock:=by
 obtain⟨g,cap,cur,fz,rfl,hb,hg,hf,hnc,hc,hs,bs,hbl,ht⟩:=hown;obtain⟨i,z,hti,hi,hz,hsize,hby,hzs,hsz⟩:=zp0;have hnews:∀(j:Nat) u,[zoy x][j]? = some u→w.cell? (ad.add j)=some u:=by
  intro j u hj;cases j with
  | zero =>
   have e:zoy x=u:=by simpa using hj
   have e2:ad.add 0=ad:=by unfold Addr.add;simp
   rw[← e,e2];exact hx
  | succ j=>simp at hj
 have hf1:=run_firstCells_some (P:=prog) w i.size 1 ad 1 c [zoy x] (by rw[hsize];rfl) hnews
 rw[hsize] at hf1;have hone:(zoy x).oneCell'=true:=rfl;by_cases hroom:n+1≤cap
 ·have hst:=zp1 prog g n 5 fz (zoy x) cur w hg (hf n (by omega)) (by omega) hone
  have hr:(Builtin.append_ #[201,201] ty #[.slice (some ⟨g,0,none⟩) n cap,.slice (some ad) 1 c]).run prog w=.ok (.slice (some ⟨g,0,none⟩) (n+1) cap) (w.setRow g (cur.setIfInBounds n (zoy x))):=by
   simp [Builtin.append_,run_underlying hti,sizeOf,typeInfo,hi,Builtin.lenOf,hroom,hf1,Addr.add_lit,hsize,hst]
  refine⟨_,_,_,hr,⟨g,cap,_,fz,rfl,hb,setRow_heap w g cur _ _ _ hg,by simpa using hf,hroom,hc,by simpa using hs,bs++[x],by simp [hbl],?_⟩,⟨rfl,rfl,rfl,by simp,fun k _ hk=>setRow_other w g k _ (fun e=>hk (by simp [Value.ownBlock,e]))⟩⟩
  have hl:n<cur.toList.length:=by simpa using (show n<cur.size by omega)
  rw[Array.toList_setIfInBounds,List.set_eq_take_append_cons_drop,if_pos hl,List.map_append,← ht,List.take_append,List.length_take,Nat.min_eq_left (Nat.le_of_lt hl),List.take_of_length_le (by rw[List.length_take];omega),show n+1 - n=1 by omega]
  rfl
 ·have holds:∀ j u,(bs.map zoy)[j]? = some u→w.cell? ((⟨g,0,none⟩:Addr).add j)=some u:=by
   intro j u hj;rw[Addr.add_lit,cell_of_row w g _ cur _ fz hg];rw[← ht,List.getElem?_take] at hj;split at hj
   ·simpa using hj
   ·cases hj
  have hr:=run_append_grow (P:=prog) w 201 ty 5 i z hti hi hz ⟨g,0,none⟩ n cap (bs.map zoy) (by rw[hsize];simp [hbl]) holds ad 1 c [zoy x] (by rw[hsize];rfl) hnews (by omega) (by omega) (growslice_fits (by omega) (by rw[hby];omega))
  have hge:=grownCap_ge w (n+1) cap 5;have hcm:=grownCap_le_maxLen w (n+1) cap 5 (by unfold maxLen;omega)
  refine⟨_,_,_,hr,⟨w.heap.size,_,_,(0,0),rfl,hbase,heap_alloc_new w.drew _,fun o _ h=>by omega,hge,hcm,?_,bs++[x],by simp [hbl],?_⟩,⟨rfl,rfl,rfl,by simp,fun k hk _=>heap_alloc_old w.drew _ hk⟩⟩
  ·simp only[Array.size_append,List.size_toArray,size_zeroCells,hzs,List.length_append,List.length_map,hbl,List.length_cons,List.length_nil]
   omega
  ·have e:n+1=(bs.map zoy++[zoy x]).length:=by simp [hbl]
   simp only[Array.toList_append]
   rw[List.map_append,show List.map zoy [x]=[zoy x] from rfl];conv=>lhs;arg 1;rw[e]
   exact List.take_left
end
theorem zp3 (w:World)(s:ByteArray)(hs:s.size≤1000000):zoz (cvtW w s 5) w.heap.size (.slice (some (cvtA w)) s.size (z0c w s 5)) s.size:=by
 have h1:=grownCap_ge w s.size 0 5;have h2:=grownCap_le_maxLen w s.size 0 5 (by unfold maxLen;omega)
 have h3:s.data.toList.length=s.size:=rfl;have hz:(bytesRow s (z0c w s 5)).size=z0c w s 5:=by
  unfold bytesRow z0c;simp only[Array.size_append,Array.size_map,Array.size_replicate]
  have:s.data.size=s.size:=rfl;omega
 refine⟨w.heap.size,_,_,_,rfl,Nat.le_refl _,heap_alloc_new w.drew _,fun o ho h=>?_,h1,h2,hz,s.data.toList,rfl,?_⟩
 ·have:=h.1;omega
 ·unfold bytesRow;rw[Array.toList_append,List.take_append_of_le_length (by simp),Array.toList_map,List.take_of_length_le (by simp)]
  rfl
theorem zp4 {w:World}{base n:Nat}{v:Value}{ops:Array Oper}{rest:List Oper}{o:Oper}{a:Act}{Q:Exit→Act→World→Prop}(hgd:o.guard=none){s y:Operand}
  (ho:o.op=.call { callee:=.builtin .append,args:=#[s,y],argTypes:=#[201,201] }) (hown:zoz w base v n) (hs:a.eval s=v)
  {ad:Addr} {c:Nat} (hy:a.eval y=.slice (some ad) 1 c) {k:Int} (hk:0≤k∧k<256) (hx:w.cell? ad=some (.int .u8 k)) (hn:n≤1000000) (hbase:base≤w.heap.size)
  (h:∀ A' c' w',zoz w' base (.slice A' (n+1) c') (n+1)→w.grownBy w' v.ownBlock→wpList prog ops Q rest (a.put o.dst (.slice A' (n+1) c')) w'):wpList prog ops Q (o :: rest) a w:=by
 have e:Value.int .u8 k=zoy (UInt8.ofNat k.toNat):=by
  unfold zoy;congr 1
  have:k.toNat<256:=by omega
  simp [UInt8.toNat_ofNat',Nat.mod_eq_of_lt this]
  omega
 rw[e] at hx;obtain⟨A',c',w',hrun,h2,h3⟩:=zp2 o.type hown (UInt8.ofNat k.toNat) hx hn hbase;refine wpList_plain hgd fun K hK=>?_;unfold Oper.wp execOp;simp only[ho,resolve,invoke,builtin,Sem.run_bind,Sem.run_pure,Result.andThen_ok,List.map_toArray,List.map_cons,List.map_nil,hs,hy]
 rw[hrun];exact hK _ _ (h A' c' w' h2 h3)
def zp5:List ByteArray:=[⟨#[97]⟩,⟨#[98,98]⟩,⟨#[36,73,100,36]⟩,⟨#[36,73,100,58,32,120,36,99]⟩,⟨#[97,98]⟩,⟨#[97,98,99]⟩,⟨#[120,47,121]⟩,⟨#[36,80,97,116,104,36,32,36,73,100,36]⟩]
theorem zp6:∀ s∈zp5,s.size≤20:=by decide
structure zp7 (w wr:World)(U g m:Nat)(v:Value)(n:Nat):Prop where
 kept:z6t [g] w wr
 tape:zgf wr U g m
 own:zoz wr w.heap.size v n
 gU:g<w.heap.size
 UU:U≤w.heap.size
section
variable {w wr w' : World} {U g m m' n : Nat} {v : Value}
theorem zp7.next (h:zp7 w wr U g m v n)(hK:z6t [g] wr w')(hT:zgf w' U g m'):zp7 w w' U g m' v n:=
 ⟨h.kept.trans hK,hT,h.own.keepAt fun x h1 h2 _=>hK.block x h2 (by have:=h.gU;rw[List.mem_singleton];omega),h.gU,h.UU⟩
theorem zp7.under (h:zp7 w wr U g m v n)(hb:Below wr.heap.size wr w'):zp7 w w' U g m v n:=h.next (z6t.below hb) (h.tape.below hb)
theorem zp7.push {v':Value}{n':Nat}(h:zp7 w wr U g m v n)(ho:zoz w' w.heap.size v' n')(hg:wr.grownBy w' v.ownBlock):zp7 w w' U g m v' n':=by
 have hlt:=h.own.lt;have hUU:=h.UU;exact⟨h.kept.grown_own hg (fun x e=>(hlt x e).1),h.tape.keep hg.size (fun x hx=>hg.block x (by have:=h.kept.size;omega) (fun e=>by have:=(hlt x e.symm).1;omega)),ho,h.gU,h.UU⟩
end
def WbPost (w:World)(U g m:Nat)(e:Ending)(w':World):Prop:=∃(v:Value) (n:Nat),e=.returned v∧n≤100∧zoz w' w.heap.size v n∧zgf w' U g m∧z6t [g] w w'
theorem zp8 (U g m:Nat)(w:World)(hT:zgf w U g m)(hU:U≤w.heap.size)(hm:m≤100000):
  Calls prog 131 #[.pointer (some ⟨g,0,none⟩)] w (WbPost w U g (m+5)):=by
 have hgl:g<w.heap.size:=by have:=hT.ltU;omega
 have hA:Below w.heap.size w (w.alloc (.cells (zp5.map Value.string).toArray 9)):=(Below.refl _ _).alloc (Nat.le_refl _) _;have HB:Hid (Blk _ _ 9 (zp5.map Value.string)):=hd_ (z0l w _ _);have HN:=hd_ (zgg U g m 8 _ (hT.below hA) (by omega) (by omega))
 have HA:=hd_ (z6t.below (S:=[g]) hA);have HG:Hid (g<w.heap.size∧U≤w.heap.size):=hd_ ⟨hgl,hU⟩;have hcv:=fun W s=>run_cvt (P:=prog) W 9 201 5 s underlying9 underlying201 underlying5;have HCV:=hd_ hcv;clear hT hU hA hgl hcv;go_enter func131,ntmps131;go_upto_region 2 with fail;change _ at HN;have e0:w.alloc (.cells (zp5.map Value.string).toArray 9)=w.alloc (.cells #[.string ⟨#[97]⟩,.string ⟨#[98,98]⟩,.string ⟨#[36,73,100,36]⟩,.string ⟨#[36,73,100,58,32,120,36,99]⟩,.string ⟨#[97,98]⟩,.string ⟨#[97,98,99]⟩,.string ⟨#[120,47,121]⟩,.string ⟨#[36,80,97,116,104,36,32,36,73,100,36]⟩] 9):=rfl;rw[← e0];clear e0;generalize w.alloc (.cells (zp5.map Value.string).toArray 9)=W1 at HB HN HA ⊢;go_wp2_with fail;refine HN.out.mono ?_;rintro e w2 ⟨k,rfl,hk,hT2,hK2⟩;dsimp only;obtain⟨j,rfl⟩:∃ j:Nat,k=j:=⟨k.toNat,by have:=hk.1;omega⟩
 have hj:j<8:=by have:=hk.2.1 (by omega);omega
 have s0:w2.cell? ⟨w.heap.size,j,none⟩=some (.string (zp5[j]'hj)):=((hK2.blk HB.out (by simp;have:=HG.out;omega)).cell j).trans (by rw[List.getElem?_map,List.getElem?_eq_getElem (show j<zp5.length from hj)];rfl)
 have hz:(zp5[j]'hj).size≤20:=zp6 _ (List.getElem_mem _);generalize zp5[j]'hj=s at s0 hz;have HS:Hid (zp7 w (cvtW w2 s 5) U g (m+1) (.slice (some (cvtA w2)) s.size (z0c w2 s 5)) s.size):=hd_ (by
  have hb:=z0d w2 s 5;have hsz:=hK2.size;have hsz2:=HA.out.size;have ho:=zp3 w2 s (by omega)
  refine⟨(HA.out.trans hK2).under hb,hT2.below hb,?_,HG.out.1,HG.out.2⟩;obtain⟨g',cap,cur,fz,e1,e2,e3⟩:=ho;exact⟨g',cap,cur,fz,e1,by omega,e3⟩)
 have hcv:=HCV.out;have hz8:(j:Int)<8:=by omega
 clear hk hT2 hK2 hj HB HN HA HCV;go_upto_region 3 with fail;generalize cvtW w2 s 5=W3 at HS ⊢;generalize cvtA w2=A0 at HS ⊢;generalize z0c w2 s 5=c0 at HS ⊢;clear s0 hcv hz8;have HX:=hd_ (zgg U g (m+1) 4 W3 HS.out.tape (by omega) (by omega))
 go_wp2_with fail;refine HX.out.mono ?_;rintro e w4 ⟨k,rfl,hk,hT4,hK4⟩;dsimp only;obtain⟨j4,rfl⟩:∃ j:Nat,k=j:=⟨k.toNat,by have:=hk.1;omega⟩
 have hj4:j4≤3:=by have:=hk.2.1 (by omega);omega
 have HS4:=hd_ (HS.out.next hK4 hT4);clear hk hT4 hK4 HX HS;go_wp2_with fail;go_loopw [4,5] (fun v i wr=>∃(j n:Nat) (A:Option Addr) (c:Nat),v=.slice A n c∧i=.int .i64 j∧n+j≤23∧j≤3∧Hid (∃ m',m'+j≤m+5∧zp7 w wr U g m' v n)) (fun _ i _=>(intOf i).toNat)
 case atStart=>exact⟨j4,s.size,some A0,c0,rfl,rfl,by omega,hj4,hd_ ⟨m+1+1,by omega,HS4.out⟩⟩
 case round =>
  obtain⟨j,n,A,c,rfl,rfl,hnj,hj3,HI⟩:=hrel;clear HS4;by_cases h1:0<j
  ·obtain⟨m',hm',hS⟩:=HI.out;have HS:=hd_ hS;have HM:=hd_ hm';have q1:decide ((0:Int)<(j:Int))=true:=by simp;omega
   have HX:=hd_ (zgg U g m' 3 wr hS.tape (by omega) (by omega))
   have HH:=hd_ (And.intro h1 (And.intro hnj hj3));clear hS hm' HI hnj hj3;go_wp2_with fail;refine HX.out.mono ?_;rintro e w5 ⟨k,rfl,hk,hT5,hK5⟩;dsimp only;have hk3:0≤k∧k<3:=⟨hk.1,hk.2.1 (by omega)⟩
   have q3:IntKind.i64.wrap (97+k)=97+k:=by rw[IntKind.wrap_i64];omega
   have q4:IntKind.u8.wrap (97+k)=97+k:=by simp [IntKind.wrap,IntKind.bits,IntKind.signed];omega
   have HS5:=hd_ ((HS.out.next hK5 hT5).under ((Below.refl w5.heap.size w5).alloc (Nat.le_refl _) (.cells #[.int .u8 (97+k)] 5)));have HY:Hid ((w5.alloc (.cells #[.int .u8 (97+k)] 5)).cell? ⟨w5.heap.size,0,none⟩=some (.int .u8 (97+k))):=hd_ ((z0l w5 [.int .u8 (97+k)] 5).cell 0);clear hk hT5 hK5 HX HS;go_wp2_with (at_builtin;refine zp4 rfl rfl HS5.out.own rfl rfl (k:=97+k) (by omega) HY.out (by have:=HH.out;omega) (by have:=HS5.out.kept.size;exact this) ?_;intro A' c' w6 ho hg)
   have HN:=hd_ (HS5.out.push ho hg);have q5:IntKind.i64.wrap ((j:Int) - 1)=((j - 1:Nat):Int):=by rw[IntKind.wrap_i64];have:=HH.out;omega
   have hj3:=HH.out.2.2;clear ho hg q3 q4;go_wp2_with fail;go_roundw
   case rel=>exact⟨j - 1,n+1,A',c',rfl,by first | rfl | go_num | (have:=HH.out;refine congrArg _ ?_;unfold wrap64;omega),by have:=HH.out;omega,by have:=HH.out;omega,hd_ ⟨m'+1,by have:=HM.out;have:=HH.out;omega,HN.out⟩⟩
   case measure=>have:=HH.out;simp [intOf,wrap64];omega
  ·have hj0:j=0:=by omega
   subst hj0;obtain⟨m',hm',hS⟩:=HI.out;have HF:Hid (WbPost w U g (m+5) (.returned (.slice A n c)) wr):=hd_ ⟨_,n,rfl,by omega,hS.own,hS.tape.mono (by omega),hS.kept⟩
   clear hS hm' HI;go_wp2_with fail;go_ret;exact HF.out
end Go.Proofs.YtegeboijhifmcaaGreatDoor
