/- A part of the proof. -/
import Derived.Test.YtegeboijhifmcaaGreatDoorMgs20
import Derived.Test.YtegeboijhifmcaaGreatDoorMgs23
set_option linter.unusedVariables false
set_option linter.unusedSimpArgs false
set_option maxHeartbeats 8000000
set_option maxRecDepth 100000
namespace Go.Proofs.YtegeboijhifmcaaGreatDoor
open Go.Proofs.Tryz
open Go.RowKit
open Go.Sort (grow)
section
variable {u0 u1 u2 u3 u4 u5 u6 u7 u8 u9 gn gt gu gx gy gz gA gC gD gE gF gG gH gI gJ gK gL gM gN gO gP gQ gR gT gV gW gX gY gZ i6 i7 i8 ia ib ic ie ig ii ij ik il im io ip iq ir iu iv iw ix iy iz iA iB iC iD iE iF iG iH iI iJ iK iL iM iN iO iP iQ iR iS iT iU iV iW iX iY iZ j0 j1 j2 j5 j6 j7 j8 j9 jb jd je jf bw bz bA bB bD bE bF bG bH bI bJ bK bL bM bN bO bP bQ bT bU bV bW bX bY bZ ca cj : Value}
theorem intElem:z0e prog 22 3 1 8:=z0f underlying22 (z:=.int .i64 0) (by kernel_rfl) rfl (by decide)
structure Bk1 (X wr:World)(bS bC:Nat)(F:ByteArray→Option Nat)(f:ByteArray→List Nat):Prop where
 low:Below X.heap.size X wr
 st:z2f Value.string natV wr bS F
 com:zkp wr X.heap.size wr.heap.size bC f
 ne:bS≠bC
 leC:X.heap.size≤bC
theorem Bk1.under {X wr wx:World}{bS bC:Nat}{F:ByteArray→Option Nat}{f:ByteArray→List Nat}(h:Bk1 X wr bS bC F f)(hb:Below wr.heap.size wr wx):Bk1 X wx bS bC F f:=
 ⟨z0r h.low hb,h.st.below hb,(h.com.keep fun x hx _=>hb.block x hx).upTo hb.size,h.ne,h.leC⟩
theorem zky {w:World}{B g:Nat}{e e2:TypeId}{size n:Nat}{v:Value}{xs cs:List Value}(h:w.ownsRow B e size v n xs)(hb:Blk w g e2 cs)(he:e≠e2):v.ownBlock≠some g:=by
 intro hx;rcases h.2 with⟨rfl,_⟩ | ⟨g',cap,cur,rfl,_,hg,_⟩
 ·cases hx
 ·injection hx with hx
  have hx':g'=g:=hx;subst hx';have hb':w.heap[g']? = _:=hb;rw[hg] at hb';injection hb' with hb'
  injection hb' with _ e1
  exact he e1
theorem bkR7 (ops:Array Oper)(hops:Tryz.f38.body.bind (zci 7)=some ops)(Q:Exit→Act→World→Prop)(X V1:World)(g7 bS bC:Nat)(F:ByteArray→Option Nat)(f:ByteArray→List Nat)(x:Syn)(i:Nat)
  (hI:Bk1 X V1 bS bC F f) (hx:Blk V1 g7 48 [.int .i64 x.kind,.string x.path,.int .i64 x.num,.string x.frm,.string x.dst]) (hf:(f x.dst).length≤1000000) (hX:X.heap.size≤V1.heap.size)
  (hQ:∀(eJ eK eL eM eN eO eP eQ eR eS:Value) (w':World),Hid (Bk1 X w' bS bC F (putF f x.dst i))→Q .normal ⟨#[u0,u1,u2,u3,u4,.map (some bC),.int .i64 i,.pointer (some ⟨g7,0,none⟩),u8,u9,gn,gt,gu,gx,gy,gz,gA,gC,gD,gE,gF,gG,gH,gI,gJ,gK,gL,gM,gN,gO,gP,gQ,eJ,eK,eL,eM,eN,eO,eP,eQ,eR,eS,ia,ib,ic,ie,ig,ii,ij,ik,il,im,io,ip,iq,ir,iu,iv,iw,ix,iy,iz,iA,iB,iC,iD,iE,iF,iG,iH,iI,iJ,iK,iL,iM,iN,iO,iP,iQ,iR,iS,iT,iU,iV,iW,iX,iY,iZ,j0,j1,j2,j5,j6,j7,j8,j9,jb,jd,je,jf,bw,bz,bA,bB,bD,bE,bF,bG,bH,bI,bJ,bK,bL,bM,bN,bO,bP,bQ,bT,bU,bV,bW,bX,bY,bZ,ca,cj],[]⟩ w'):
  (Code.region 7 ops true).wp prog Q ⟨#[u0,u1,u2,u3,u4,.map (some bC),.int .i64 i,.pointer (some ⟨g7,0,none⟩),u8,u9,gn,gt,gu,gx,gy,gz,gA,gC,gD,gE,gF,gG,gH,gI,gJ,gK,gL,gM,gN,gO,gP,gQ,gR,gT,gV,gW,gX,gY,gZ,i6,i7,i8,ia,ib,ic,ie,ig,ii,ij,ik,il,im,io,ip,iq,ir,iu,iv,iw,ix,iy,iz,iA,iB,iC,iD,iE,iF,iG,iH,iI,iJ,iK,iL,iM,iN,iO,iP,iQ,iR,iS,iT,iU,iV,iW,iX,iY,iZ,j0,j1,j2,j5,j6,j7,j8,j9,jb,jd,je,jf,bw,bz,bA,bB,bD,bE,bF,bG,bH,bI,bJ,bK,bL,bM,bN,bO,bP,bQ,bT,bU,bV,bW,bX,bY,bZ,ca,cj],[]⟩ V1:=by
 simp only[Tryz.f38,Option.bind_some,zci] at hops
 simp at hops
 subst hops;obtain⟨A,c,hlk,hrow,hup,hback⟩:=hI.com.look x.dst;have hbC:bC<V1.heap.size:=by obtain⟨g,hg⟩:=hI.com;exact hg.map.lt
 have hnr:=zky hrow hx (by decide)
 have HL:Hid (∀ W,Below V1.heap.size V1 W→(Instr.lookup 123 (.map (some bC)) (.string x.dst) false).run prog W=.ok (.slice A (f x.dst).length c) W):=hd_ fun W hW=>hlk W (hW.block bC hbC);have HX:Hid (∀ W,Below V1.heap.size V1 W→W.cell? ⟨g7,4,none⟩=some (.string x.dst)):=hd_ fun W hW=>(hx.below hW hx.lt).cell 4;have HX2:Hid (∀ Y W,Below V1.heap.size V1 Y→Y.grownBy W (Value.slice A (f x.dst).length c).ownBlock→W.cell? ⟨g7,4,none⟩=some (.string x.dst)):=hd_ fun Y W hY hG=>((hx.below hY hx.lt).grown hG (fun e=>hnr e.symm)).cell 4;have HROW:Hid (∀ W,Below V1.heap.size V1 W→W.ownsRow X.heap.size 3 1 (.slice A (f x.dst).length c) (f x.dst).length (zkl (f x.dst))):=hd_ fun W hW=>z0n hrow hW;have HEND:Hid (∀(Y W:World) (A':Option Addr) (c':Nat),Below V1.heap.size V1 Y→Y.grownBy W (Value.slice A (f x.dst).length c).ownBlock→W.ownsRow X.heap.size 3 1 (.slice A' ((f x.dst).length+1) c') ((f x.dst).length+1) (zkl (f x.dst)++[.int .i64 i]) →
   ((Value.slice A' ((f x.dst).length+1) c').ownBlock=(Value.slice A (f x.dst).length c).ownBlock∨(Value.slice A' ((f x.dst).length+1) c').ownBlock=some Y.heap.size) →
   ∃ W2,(Instr.mapUpdate 123 (.map (some bC)) (.string x.dst) (.slice A' ((f x.dst).length+1) c')).run prog W=.ok () W2∧Bk1 X W2 bS bC F (putF f x.dst i)):=hd_ fun Y W A' c' hY hG hO hB=>by
  have hg1:V1.grownBy W (Value.slice A (f x.dst).length c).ownBlock:=⟨hG.os.trans hY.os,hG.tape.trans hY.tape,hG.output.trans hY.output,Nat.le_trans hY.size hG.size,fun k hk hne=>(hG.block k (Nat.lt_of_lt_of_le hk hY.size) hne).trans (hY.block k hk)⟩;obtain⟨W2,h1,h2,h3,h4⟩:=hback W A' c' _ i W.heap.size hg1 rfl hO (Nat.le_refl _) hg1.size (Nat.le_refl _) (by
   rcases hB with e | e
   ·exact .inl e
   ·exact .inr ⟨_,e,hY.size⟩)
  have hrb:∀ k,(Value.slice A (f x.dst).length c).ownBlock=some k→X.heap.size≤k:=fun k hk=>(hup k hk).2;obtain⟨es,cc,hm⟩:=zko hI.st;have hbS:(Value.slice A (f x.dst).length c).ownBlock≠some bS:=fun e=>zkn hrow e hm;have hl1:Below X.heap.size X W:=hI.low.grown hg1 hX hrb;exact⟨W2,h1,⟨hl1.grown h3 (Nat.le_trans hX hg1.size) (fun k e=>by injection e with e;have:=hI.leC;omega),(hI.st.grown hg1 (fun e=>hbS e.symm)).grown h3 (fun e=>hI.ne (by injection e)),by rw[h4];exact h2,hI.ne,hI.leC⟩⟩
 have HQ:=hd_ hQ;have hdr:Below V1.heap.size V1 V1.drew:=(Below.refl _ _).drew;have hda:Below V1.heap.size V1 (V1.alloc (.cells #[.int .i64 i] 3)).drew:=(zcf (Below.refl _ _) _).drew;have HDA:=hd_ hda;have x1:=HX.out V1 (Below.refl _ _);have x2:=HX.out _ hda;have l1:=HL.out _ hdr;have l2:=HL.out _ hda;have HF:=hd_ hf;have HSZ:Hid (X.heap.size≤(V1.alloc (.cells #[.int .i64 i] 3)).drew.heap.size):=hd_ (Nat.le_trans hX hda.size);clear hQ hI hx hlk hrow hup hback hdr hda hf hX hbC hnr;generalize f x.dst=fl at *;refine wp_region_noPanic ?_;go_region_law (first
  | (refine zce (base:=X.heap.size) rfl rfl intElem (HROW.out _ HDA.out) (by simp [Act.eval,Act.put];done) (Row.drew (z0i V1 [.int .i64 i] _ 1 1 rfl (by decide) _ rfl)) (by simp [Act.eval,Act.put];done) (by simp [Value.oneCell']) (by have:=HF.out;omega) (by have:=HF.out;unfold maxLen;omega) HSZ.out ?_;intro A6 c6 w6 hO6 hG6 hw6;have x6:=HX2.out _ _ HDA.out hG6;obtain⟨W2,hup2,hfin⟩:=HEND.out _ _ _ _ HDA.out hG6 hO6 hw6))
 all_goals exact NoPanic.normal (HQ.out _ _ _ _ _ _ _ _ _ _ _ (hd_ hfin))
end
theorem zno (p:Pat)(A:Option Addr)(c:Nat)(w:World)(hp:za9 w (.slice A p.parts.length c) p)(hn:zcm p):
  Calls prog 245 #[.agg #[.slice A p.parts.length c,.bool true]] w fun e w'=>e=.returned (.int .i64 1)∧Below w.heap.size w w':=by
 have hA:Below w.heap.size w (w.alloc (.cells #[.slice A p.parts.length c,.bool true] 97)):=(Below.refl _ _).alloc (Nat.le_refl _) _;have h2:zbo (w.alloc (.cells #[.slice A p.parts.length c,.bool true] 97)) w.heap.size (.slice A p.parts.length c) true:=z0l w [.slice A p.parts.length c,.bool true] 97;have HK:Hid (Calls prog 182 #[.agg #[.slice A p.parts.length c,.bool true]] (w.alloc (.cells #[.slice A p.parts.length c,.bool true] 97)) fun e w'=>e=.returned (.tuple #[.int .i64 0,.bool true])∧Below (w.alloc (.cells #[.slice A p.parts.length c,.bool true] 97)).heap.size (w.alloc (.cells #[.slice A p.parts.length c,.bool true] 97)) w'):=hd_ (by
  have:=zni p A c _ (hp.below hA) hn.pat;rw[hn.rest] at this;refine this.mono ?_;rintro e w' ⟨rfl,hb⟩;rw[zct hn,hn.rest];exact⟨rfl,hb⟩)
 have HA:=hd_ hA;have x0:=h2.c0;have x1:=h2.c1;clear hp hn hA h2;go_enter func245,ntmps245;go_wp2_with fail;refine HK.out.mono ?_;rintro e w2 ⟨rfl,hb⟩;dsimp only;have HB:=hd_ (z0r HA.out hb);clear hb x0 x1;go_wp2_with fail;go_ret;exact⟨rfl,HB.out⟩
theorem Row.empty {w w':World}{size n:Nat}{v:Value}{xs:List Value}(h:Row w size v n xs)(hn:n=0):Row w' size v n xs:=by
 obtain⟨A,c,e,hc,hm,hl,h0,-⟩:=h;exact⟨A,c,e,hc,hm,hl,h0,fun h=>absurd h (by omega)⟩
theorem zcs.setB {w wr:World}{g4 g11:Nat}{v:Value}{b b2:Bool}{l:List ByteArray}(h:zcs w wr g4 g11 v b l):zcs w (wr.setCell ⟨g11,1,none⟩ (.bool b2)) g4 g11 v b2 l:=
 ⟨h.low.setCell (p:=⟨g11,1,none⟩) (by show w.heap.size≤g11;have:=h.le4;have:=h.le;omega) _,h.le4,h.le,Blk.far h.box4 (by show g11≠g4;have:=h.le;omega) _,Blk.set_ h.box 1 _,z4r h.own (p:=⟨g11,1,none⟩) h.ne _,h.ne4,h.ne⟩
theorem sbR29 (ops:Array Oper)(hops:Tryz.f219.body.bind (zci 29)=some ops)(Q:Exit→Act→World→Prop)(w V:World)(g4 g7 g14 n m c7 c:Nat)(A7 C:Option Addr)(l l2:List ByteArray)
  (hI:zcs w V g4 g7 (.slice A7 n c7) false l) (hBB:Blk V g14 282 [.slice C m c,.bool true]) (hS:Strs V (.slice C m c) l2) (hl:l.length=n) (hm:l2.length=m) (hle:n+m≤12) (hne:g14≠g7) (hno:(Value.slice A7 n c7).ownBlock≠some g14) (hCne:0<m→∀ ad,C=some ad→ad.block≠g7)
  (u0 u1 u2 u3 u4 u5 u6 u8 u9 gn gt gu gx gz gA gC gD gE gF gG gH gI gJ gK gL gM gN gO gP gQ gR gT gV gW gX gY gZ i6 i7 i8 ia ib ic ie ig ii ij ik il im io ip iq ir iu iv iw ix iy iz iA iB iC iD iE iF iG iH iI iJ iK iL iM iN iO iP iQ iR iS iT iU iV iW iX iY iZ j0 j1 j2 j5 j6 j7 j8 j9 jb jd je jf bw bz bA bB bD bE bF bG bH bI bJ bK bL bM bN bO bP bQ bT bU bV:Value)
  (hQ:∀(ah ai aj ak al am ao ap aq:Value) (A':Option Addr) (c':Nat) (w':World),Hid (zcs w w' g4 g7 (.slice A' (n+m) c') true (l++l2))→Q .normal ⟨#[u0,u1,u2,u3,u4,u5,u6,.pointer (some ⟨g7,0,none⟩),u8,u9,gn,gt,gu,gx,.pointer (some ⟨g14,0,none⟩),gz,gA,gC,gD,gE,gF,gG,gH,gI,gJ,gK,gL,gM,gN,gO,gP,gQ,gR,gT,gV,gW,gX,gY,gZ,i6,i7,i8,ia,ib,ic,ie,ig,ii,ij,ik,il,im,io,ip,iq,ir,iu,iv,iw,ix,iy,iz,iA,iB,iC,iD,iE,iF,iG,iH,iI,iJ,iK,iL,iM,iN,iO,iP,iQ,iR,iS,iT,iU,iV,iW,iX,iY,iZ,j0,j1,j2,j5,j6,j7,j8,j9,jb,jd,je,jf,bw,bz,bA,bB,bD,bE,ah,ai,aj,ak,al,am,ao,ap,aq,bO,bP,bQ,bT,bU,bV],[]⟩ w'):
  (Code.region 29 ops true).wp prog Q ⟨#[u0,u1,u2,u3,u4,u5,u6,.pointer (some ⟨g7,0,none⟩),u8,u9,gn,gt,gu,gx,.pointer (some ⟨g14,0,none⟩),gz,gA,gC,gD,gE,gF,gG,gH,gI,gJ,gK,gL,gM,gN,gO,gP,gQ,gR,gT,gV,gW,gX,gY,gZ,i6,i7,i8,ia,ib,ic,ie,ig,ii,ij,ik,il,im,io,ip,iq,ir,iu,iv,iw,ix,iy,iz,iA,iB,iC,iD,iE,iF,iG,iH,iI,iJ,iK,iL,iM,iN,iO,iP,iQ,iR,iS,iT,iU,iV,iW,iX,iY,iZ,j0,j1,j2,j5,j6,j7,j8,j9,jb,jd,je,jf,bw,bz,bA,bB,bD,bE,bF,bG,bH,bI,bJ,bK,bL,bM,bN,bO,bP,bQ,bT,bU,bV],[]⟩ V:=by
 simp only[Tryz.f219,Option.bind_some,zci] at hops
 simp at hops
 subst hops;have HQ:=hd_ hQ;have HI:=hd_ hI;obtain⟨x0,x1,f0,f1⟩:=(⟨hI.box.c0,hI.box.c1,hI.box.frozen 0,hI.box.frozen 1⟩:V.cell? ⟨g7,0,none⟩=some (.slice A7 n c7)∧V.cell? ⟨g7,1,none⟩=some (.bool false)∧V.frozen? ⟨g7,0,none⟩=false∧V.frozen? ⟨g7,1,none⟩=false);obtain⟨b0,b1⟩:=(⟨hBB.cell 0,hBB.cell 1⟩:V.cell? ⟨g14,0,none⟩=some (.slice C m c)∧V.cell? ⟨g14,1,none⟩=some (.bool true));have n1:¬(g14=g7):=hne;have n2:¬(g7=g14):=fun e=>hne e.symm;subst hl hm;have hOW:=hI.own;have hWW:w.heap.size≤V.heap.size:=hI.low.size;have HOWN:=hd_ hOW;have HS:=hd_ hS;have HONE:Hid (∀ v∈l2.map Value.string,v.oneCell'=true):=hd_ (fun v hv=>by obtain⟨x,-,rfl⟩:=List.mem_map.1 hv;rfl)
 have HBB:=hd_ hBB;have HI2:=hd_ (hI.setB (b2:=true));have HS2:Hid (Strs (V.setCell ⟨g7,1,none⟩ (.bool true)) (.slice C l2.length c) l2):=hd_ (by
  rcases Nat.eq_zero_or_pos l2.length with h0 | h0
  ·exact Row.empty hS h0
  ·refine Row.set_far hS ?_;intro e;cases C with
   | none=>cases e
   | some ad=>exact hCne h0 ad rfl (by simpa [Value.ownBlock] using e))
 have HNO:=hd_ hno;clear hQ hI hOW hS hBB hCne hno;refine wp_region_noPanic ?_;go_region_law (first
   | (refine zce (base:=w.heap.size) rfl rfl zln HOWN.out (by simp [Act.eval,Act.put];done) HS.out (by simp [Act.eval,Act.put];done) HONE.out (by omega) (by unfold maxLen;omega) hWW ?_;intro A5 c5 w5 hO5 hG5 hw5;have hb5:=Blk.grown (Blk.drew' HI.out.box) hG5 (fun e=>HI.out.ne e.symm);have k5:=Blk.frozen hb5 0;have k6:=Blk.frozen hb5 1;have k7:=Blk.cell hb5 0;have k8:=Blk.cell hb5 1;have k9:=(Blk.grown (Blk.drew' HBB.out) hG5 (fun e=>HNO.out e.symm)).cell 1)
   | (refine zce (base:=w.heap.size) rfl rfl zln HI2.out.own (by simp [Act.eval,Act.put];done) HS2.out (by simp [Act.eval,Act.put];done) HONE.out (by omega) (by unfold maxLen;omega) hWW ?_;intro A5 c5 w5 hO5 hG5 hw5;have hb5:=Blk.grown (Blk.drew' HI2.out.box) hG5 (fun e=>HI2.out.ne e.symm);have k5:=Blk.frozen hb5 0;have k6:=Blk.frozen hb5 1;have k7:=Blk.cell hb5 0;have k8:=Blk.cell hb5 1))
 all_goals first
  | exact NoPanic.normal (HQ.out _ _ _ _ _ _ _ _ _ _ _ _ (hd_ ((HI.out.app (m:=l2) rfl hO5 ⟨hG5.os,hG5.tape,hG5.output,hG5.size,hG5.block⟩ hw5).setB (b2:=true))))
  | exact NoPanic.normal (HQ.out _ _ _ _ _ _ _ _ _ _ _ _ (hd_ (HI2.out.app (m:=l2) rfl hO5 ⟨hG5.os,hG5.tape,hG5.output,hG5.size,hG5.block⟩ hw5)))
theorem znp {x:ByteArray}(h:z7b x≠0):z95 x=true:=by
 unfold z95 z94;unfold z7b at h;cases hc:z0v x with
 | true=>simp
 | false =>
  rw[hc] at h;cases hs:z79 x with
  | false=>rw[hs] at h;exact absurd rfl h
  | true =>
   rw[hs] at h;cases ht:z7a x with
   | false=>rw[ht] at h;exact absurd rfl h
   | true=>rfl
theorem zcs.pushS {w wr w2:World}{g4 g11 n:Nat}{v:Value}{b:Bool}{l:List ByteArray}{x:ByteArray}{A':Option Addr}{c':Nat}(h:zcs w wr g4 g11 v b l)(hn:n=l.length)
  (hown:w2.ownsRow w.heap.size 9 1 (.slice A' (n+1) c') (n+1) (l.map .string++[.string x])) (hgr:wr.grownBy w2 v.ownBlock)
  (hob:(Value.slice A' (n+1) c').ownBlock=v.ownBlock∨(Value.slice A' (n+1) c').ownBlock=some wr.heap.size):
  zcs w (w2.setCell ⟨g11,0,none⟩ (.slice A' (n+1) c')) g4 g11 (.slice A' (n+1) c') b (l++[x]):=h.app (m:=[x]) (by rw[hn];rfl) hown hgr hob
theorem znq (p:Pat)(l:List ByteArray)(A:Option Addr)(a:Nat)(B1:Addr)(c1:Nat)(C:Option Addr)(m c:Nat)(w:World)(hp:za9 w (.slice A p.parts.length a) p)(hn:zcm p)
  (hb:Row w 2 (.slice (some B1) 1 c1) 1 [.slice C m c,.bool true]) (hl:Strs w (.slice C m c) l) (hz:∀ x∈l,x.size≤1000000) (hf:∀ x∈l,z7b x≠0) (hle:p.parts.length+l.length≤12):
  Calls prog 219 #[.agg #[.slice A p.parts.length a,.bool true],.slice (some B1) 1 c1] w (zcr w p l):=by
 have hml:m=l.length:=by obtain⟨A',c',e,-⟩:=id hl;injection e
 subst hml;have hcells:w.cell? B1=some (.slice C l.length c)∧w.cell? ⟨B1.block,B1.off+1,none⟩=some (.bool true)∧B1.block<w.heap.size:=by
  obtain⟨A',c',e,-,-,-,-,hx⟩:=id hb;injection e with e1 e2 e3
  obtain⟨ad,e4,hb4,hc4⟩:=hx (by omega)
  rw[← e1] at e4;injection e4 with e4
  subst e4;have h0:=hc4 0 _ rfl;have h1:=hc4 1 _ rfl;unfold Addr.add at h0 h1;exact⟨by simpa using h0,by simpa using h1,hb4⟩
 have hA:Below w.heap.size w ((w.alloc (.cells #[.slice A p.parts.length a,.bool true] 97)).alloc (.cells #[.slice none 0 0,.bool false] 97)):=((Below.refl _ _).alloc (Nat.le_refl _) _).alloc (by simp) _
 have h2:zbo ((w.alloc (.cells #[.slice A p.parts.length a,.bool true] 97)).alloc (.cells #[.slice none 0 0,.bool false] 97)) w.heap.size (.slice A p.parts.length a) true:=(z0l w [.slice A p.parts.length a,.bool true] 97).alloc _;have h3:zbo ((w.alloc (.cells #[.slice A p.parts.length a,.bool true] 97)).alloc (.cells #[.slice none 0 0,.bool false] 97)) (w.heap.size+1) (.slice none 0 0) false:=by
  have:=z0l (w.alloc (.cells #[.slice A p.parts.length a,.bool true] 97)) [.slice none 0 0,.bool false] 97;rw[World.size_alloc] at this;exact this
 have HCP:Hid (∀ X,Below w.heap.size w X→Calls prog 181 #[.agg #[.slice A p.parts.length a,.bool true]] X fun e w'=>e=.returned (.int .i64 0)∧Below X.heap.size X w'):=hd_ (fun X hX=>by have:=zca p A a X (hp.below hX).1 hp.small;rw[hn.rest,hn.pat] at this;exact this)
 have HWC:=hd_ (fun X (hX:Below w.heap.size w X)=>zno p A a X (hp.below hX) hn);have HST:Hid (∀(k:Nat) (h:k<p.parts.length) X,Calls prog 217 #[.string p.parts[k]] X fun e w'=>∃ s,e=.returned (.tuple #[.string s,.bool false])∧Below X.heap.size X w'):=hd_ fun k h X=>by
  have h0:z94 p.parts[k]=false:=by unfold z94;rw[hn.star _ (List.getElem_mem h)];rfl
  refine (z9n p.parts[k] X (hp.small _ (List.getElem_mem h))).mono ?_;rintro e w' ⟨rfl,rfl⟩;rw[h0];exact⟨_,rfl,Below.refl _ _⟩
 have HPT:Hid (∀(k:Nat) (h:k<l.length) X,Calls prog 216 #[.string l[k]] X fun e w'=>e=.returned (.bool true)∧Below X.heap.size X w'):=hd_ fun k h X=>by
  refine (z9o l[k] X (by have:=hz _ (List.getElem_mem h);unfold maxLen;omega)).mono ?_
  rintro e w' ⟨rfl,rfl⟩;rw[znp (hf _ (List.getElem_mem h))];exact⟨rfl,Below.refl _ _⟩
 have HP:=hd_ hp;have HL:=hd_ hl;have HCE:=hd_ hcells;have HLE:=hd_ hle;have hcap:1≤c1:=by
  obtain⟨A',c',e,h1,-⟩:=id hb;injection e with e1 e2 e3
  omega
 clear hp hn hl hcells hz hf hb;go_enter func219,ntmps219;go_upto_region 1 with fail;generalize (w.alloc (.cells #[.slice A p.parts.length a,.bool true] 97)).alloc (.cells #[.slice none 0 0,.bool false] 97)=W1 at hA h2 h3 ⊢;have x0:=h2.c0;have x1:=h2.c1;have H:=hd_ (And.intro hA (And.intro h2 h3));have HC1:=hd_ (HCP.out W1 hA);clear hA h2 h3;go_wp2_with fail;refine HC1.out.mono ?_;rintro e w2 ⟨rfl,hb⟩;dsimp only;have HB:=hd_ (z0r H.out.1 hb);have HG:=hd_ (And.intro (H.out.2.1.low hb) (H.out.2.2.low hb));have HC2:=hd_ (HWC.out w2 HB.out);clear hb x0 x1;have x0:=HG.out.1.c0;have x1:=HG.out.1.c1;go_wp2_with fail;refine HC2.out.mono ?_;rintro e w3 ⟨rfl,hb⟩;dsimp only;have HB3:=hd_ (z0r HB.out hb);have HG3:=hd_ (And.intro (HG.out.1.low hb) (HG.out.2.low hb));clear hb x0 x1;have HS:Hid (zcs w (w3.alloc (.cells #[.slice none 0 0,.bool false] 97)) (w.heap.size+1) w3.heap.size (.slice none 0 0) false []):=hd_ (by
  have hba:Below w3.heap.size w3 (w3.alloc (.cells #[.slice none 0 0,.bool false] 97)):=(Below.refl _ _).alloc (Nat.le_refl _) _;have hl4:=Blk.lt HG3.out.2;exact⟨z0r HB3.out hba,by omega,by omega,HG3.out.2.low hba,z0l w3 _ _,World.ownsRow_nil _ _ _ _,(fun e=>by cases e),(fun e=>by cases e)⟩)
 have HGS:Hid (zbo (w3.alloc (.cells #[.slice none 0 0,.bool false] 97)) w.heap.size (.slice A p.parts.length a) true∧w.heap.size<w3.heap.size):=hd_ ⟨HG3.out.1.low ((Below.refl _ _).alloc (Nat.le_refl _) _),Blk.lt HG3.out.1⟩;have x0:=HGS.out.1.c0;go_upto_region 7 with fail;generalize w3.alloc (.cells #[.slice none 0 0,.bool false] 97)=W4 at HS HGS x0 ⊢;generalize w3.heap.size=g7 at HS HGS ⊢;go_wp2_with fail;clear x0;go_loopw [8,32] (fun z i wr=>∃(k:Nat) (v:Value),z=.int .i64 0∧i=.int .i64 k∧k≤p.parts.length∧Hid (zcs w wr (w.heap.size+1) g7 v false (p.parts.take k)∧zbo wr w.heap.size (.slice A p.parts.length a) true)) (fun _ i _=>p.parts.length - (intOf i).toNat)
 case atStart=>exact⟨0,_,rfl,rfl,Nat.zero_le _,hd_ ⟨HS.out,HGS.out.1⟩⟩
 case round =>
  obtain⟨k,v,rfl,rfl,hk,HI⟩:=hrel;clear HS;by_cases hlt:k<p.parts.length
  ·obtain⟨ad,rfl,hab,s0⟩:=Strs.at_ (HP.out.below HI.out.1.low).1 hlt;have HCI:=hd_ (HST.out k hlt wr);have HLT:=hd_ hlt;have HTK:=hd_ (show p.parts.take (k+1)=p.parts.take k++[p.parts[k]] from List.take_succ_eq_append_getElem hlt);have hkl:(p.parts.take k).length=k:=by rw[List.length_take];omega
   obtain⟨Av,cv,hv⟩:=z0o HI.out.1.own;rw[hkl] at hv;subst hv;generalize p.parts[k]=u at s0 HCI HTK;go_wp2_with fail;refine HCI.out.mono ?_;rintro e w4 ⟨s,rfl,hb⟩;dsimp only;have HI4:=hd_ (HI.out.1.under hb);have HPB4:=hd_ (HI.out.2.low hb);clear hb s0;have y0:=HI4.out.box.c0;have f0:=HI4.out.box.frozen 0;have hba:Below w4.heap.size w4 (w4.alloc (.cells #[.string u] 9)):=(Below.refl _ _).alloc (Nat.le_refl _) _;have HI5:=hd_ (HI4.out.under hba);have HPB5:=hd_ (HPB4.out.low hba);have ho5:=HI5.out.own;rw[hkl] at ho5;have HO5:=hd_ ho5;have HKL:=hd_ hkl;have hrow:=z0i w4 [.string u] 9 1 1 rfl (by unfold maxLen;omega) w4.heap.size rfl
   have hsz:=HI5.out.low.size;have hp12:=HLE.out;clear ho5 hba hkl;go_wp2_with (at_builtin;refine z0j rfl rfl zln HO5.out rfl hrow rfl (by simp [Value.oneCell']) (by omega) (by unfold maxLen;omega) hsz ?_;intro A' c' w6 hown hgr hob;have hbg:=Blk.grown HI5.out.box hgr (fun e=>HI5.out.ne e.symm);have z0:=Blk.cell hbg 0;have zf:=Blk.frozen hbg 0)
   have HN6:=hd_ (HI5.out.pushS (x:=u) HKL.out.symm hown hgr hob);have hpn:=zky HI5.out.own HPB5.out (by decide)
   have HPB6:=hd_ (Blk.far (Blk.grown HPB5.out hgr (fun e=>hpn e.symm)) (p:=⟨g7,0,none⟩) (by show g7≠w.heap.size;have:=HGS.out.2;omega) (.slice A' (k+1) c'))
   rw[← HTK.out] at HN6;clear hown hgr hob hbg z0 zf y0 f0 hrow hpn;go_wp2_with fail;go_roundw
   case rel=>exact⟨k+1,_,rfl,by go_num,by have:=HLT.out;omega,hd_ ⟨HN6.out,HPB6.out⟩⟩
   case measure=>have:=HLT.out;simp [intOf];omega
  ·have hke:k=p.parts.length:=by omega
   have HS3:Hid (zcs w wr (w.heap.size+1) g7 v false p.parts):=hd_ (by have:=HI.out.1;rw[hke,List.take_length] at this;exact this)
   obtain⟨Av,cv,rfl⟩:=z0o HS3.out.own;have b0:wr.cell? B1=some (.slice C l.length c):=(HS3.out.low.cell HCE.out.2.2).trans HCE.out.1;have b1:wr.cell? ⟨B1.block,B1.off+1,none⟩=some (.bool true):=(HS3.out.low.cell (p:=⟨B1.block,B1.off+1,none⟩) HCE.out.2.2).trans HCE.out.2.1;have x1:=HI.out.2.c1;have hba:Below wr.heap.size wr (wr.alloc (.cells #[.slice C l.length c,.bool true] 282)):=(Below.refl _ _).alloc (Nat.le_refl _) _;have HBX:=hd_ (z0l wr [.slice C l.length c,.bool true] 282);have HS4:=hd_ (HS3.out.under hba);have HNO:Hid ((Value.slice Av p.parts.length cv).ownBlock≠some wr.heap.size∧g7<wr.heap.size):=hd_ ⟨fun e=>by have:=(HS3.out.own.lt _ e).2;omega,Blk.lt HS3.out.box⟩
   clear hba hke hk HI;go_upto_region 21 with fail;generalize wr.alloc (.cells #[.slice C l.length c,.bool true] 282)=W5 at HBX HS4 ⊢;generalize wr.heap.size=g14 at HBX HNO ⊢;clear b0 b1 x1 HS3;have d0:W5.cell? ⟨g14,0,none⟩=some (.slice C l.length c):=HBX.out.cell 0;have d1:W5.cell? ⟨g14,1,none⟩=some (.bool true):=HBX.out.cell 1;obtain⟨cc,hcc⟩:∃ cc,((l.length:Int) == 0)=cc:=⟨_,rfl⟩;have HL5:=hd_ (fun X (hX:Below W5.heap.size W5 X)=>Strs.below HL.out (z0r HS4.out.low hX));have hl12:=HLE.out;have HIN:Hid (∀ X,Below W5.heap.size W5 X→Blk X g14 282 [.slice C l.length c,.bool true]∧zcs w X (w.heap.size+1) g7 (.slice Av p.parts.length cv) false p.parts):=hd_ fun X hX=>⟨HBX.out.below hX HBX.out.lt,HS4.out.under hX⟩;cases cc
   all_goals
    clear HBX HS4;go_wp2_with fail;clear hcc d0 d1;go_loopw [97] (fun i wr=>∃ k:Nat,i=.int .i64 k∧k≤l.length∧Hid (Below W5.heap.size W5 wr)) (fun i _=>l.length - (intOf i).toNat)
    case atStart=>exact⟨0,rfl,Nat.zero_le _,hd_ (Below.refl _ _)⟩
    case round =>
     obtain⟨k,rfl,hk,HI⟩:=hrel;by_cases hlt:k<l.length
     ·obtain⟨ad,rfl,hab,s0⟩:=Strs.at_ (HL5.out wr HI.out) hlt;have HCI:=hd_ (HPT.out k hlt wr);have HLT:=hd_ hlt;generalize l[k]=u at s0 HCI;go_wp2_with fail;refine HCI.out.mono ?_;rintro e w4 ⟨rfl,hb⟩;dsimp only;have HB4:=hd_ (z0r HI.out hb);clear hb s0;go_wp2_with fail;go_roundw
      case rel=>exact⟨k+1,by go_num,by have:=HLT.out;omega,HB4⟩
      case measure=>have:=HLT.out;simp [intOf];omega
     ·obtain⟨hbx,hsx⟩:=HIN.out wr HI.out;have hs:=HL5.out wr HI.out;go_upto_region 29 with fail;refine sbR29 _ (by kernel_rfl) _ w wr (w.heap.size+1) g7 g14 p.parts.length l.length cv c Av C p.parts l hsx hbx hs rfl rfl hl12 (by have:=HNO.out.2;omega) HNO.out.1 (fun h0 ad e=>by
       obtain⟨A9,c9,e9,-,-,-,-,h9⟩:=id HL.out;obtain⟨ad9,e10,hb9,-⟩:=h9 h0;injection e9 with e9 _ _
       rw[e,e10] at e9;injection e9 with e9
       rw[e9];have:=HGS.out.2;omega) _ _ _ _ _ _ _ _ _ _ _ _ _ _ _ _ _ _ _ _ _ _ _ _ _ _ _ _ _ _ _ _ _ _ _ _ _ _ _ _ _ _ _ _ _ _ _ _ _ _ _ _ _ _ _ _ _ _ _ _ _ _ _ _ _ _ _ _ _ _ _ _ _ _ _ _ _ _ _ _ _ _ _ _ _ _ _ _ _ _ _ _ _ _ _ _ _ _ _ _ _ _ _ _ _ _ _ _ _ _ _ _ _ _ _ _ _ _ _ ?_
      intro ah ai aj ak al am ao ap aq A' c' w6 HP6;clear hbx hsx hs;have y0:=HP6.out.box.c0;have y1:=HP6.out.box.c1;obtain⟨u0,u1,u2,u3⟩:=HP6.out.box4.all;have q12:decide ((12:Int)<(p.parts.length:Int)+(l.length:Int))=false:=by simp;omega
      have q13:decide (12<p.parts.length+l.length)=false:=by simp;omega
      have hne:¬(w.heap.size+1=g7):=by have:=HP6.out.le;omega
      have hne2:¬(g7=w.heap.size+1):=by have:=HP6.out.le;omega
      go_wp2_with fail;have hE:=zbo.put HP6.out.box4 (.slice A' (p.parts.length+l.length) c') true;have hb:=zbp HP6.out.low (g:=w.heap.size+1) (by omega) (.slice A' (p.parts.length+l.length) c') (.bool true)
      have hO:=Row.of_own (z4r (z4r HP6.out.own (p:=⟨w.heap.size+1,0,none⟩) HP6.out.ne4 (.slice A' (p.parts.length+l.length) c')) (p:=⟨w.heap.size+1,1,none⟩) HP6.out.ne4 (.bool true));generalize (w6.setCell ⟨w.heap.size+1,0,none⟩ (.slice A' (p.parts.length+l.length) c')).setCell ⟨w.heap.size+1,1,none⟩ (.bool true)=W8 at hE hb hO ⊢;obtain⟨-,-,c0,c1⟩:=hE.all;refine bodyPost_ret (v:=.tuple #[.agg #[.slice A' (p.parts.length+l.length) c',.bool true],.int .i64 0]) (by simp [results,results219,go_sem,c0,c1]) rfl ⟨hb,A',c',rfl,fun x hx=>(HP6.out.own.lt x hx).1,?_⟩
      show Row W8 1 _ (p.parts++l).length _
      have e:(p.parts++l).length=p.parts.length+l.length:=List.length_append;rw[e] at hO ⊢;exact hO
end Go.Proofs.YtegeboijhifmcaaGreatDoor
