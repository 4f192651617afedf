/- A part. -/
import Derived.Test.YtijghobkkdbhnaaGreatDoorMgw19
import Derived.Test.YtijghobkkdbhnaaGreatDoorMgw20
import Derived.Test.YtijghobkkdbhnaaGreatDoorMgw21
set_option linter.unusedVariables false
set_option linter.unusedSimpArgs false
set_option maxHeartbeats 8000000
set_option maxRecDepth 100000
namespace Go.Proofs.YtijghobkkdbhnaaGreatDoor
open Go.Proofs.Tryz
open Go.RowKit
open Go.Sort (grow)
theorem zn3 (p:Pat)(A:Option Addr)(c:Nat)(w:World)(hp:zae w (.slice A p.parts.length c) p)(hn:zcr p):
  Calls prog 165 #[.agg #[.slice A p.parts.length c,.bool true]] w fun e w'=>e=.returned (.int .i64 1)∧Below w.heap.size w w':=by
 have hA:Below w.heap.size w (w.alloc (.cells #[.slice A p.parts.length c,.bool true] 68)):=(Below.refl _ _).alloc (Nat.le_refl _) _;have h2:zbt (w.alloc (.cells #[.slice A p.parts.length c,.bool true] 68)) w.heap.size (.slice A p.parts.length c) true:=z0l w [.slice A p.parts.length c,.bool true] 68;have HK:Hid (Calls prog 61 #[.agg #[.slice A p.parts.length c,.bool true]] (w.alloc (.cells #[.slice A p.parts.length c,.bool true] 68)) fun e w'=>e=.returned (.tuple #[.int .i64 0,.bool true])∧Below (w.alloc (.cells #[.slice A p.parts.length c,.bool true] 68)).heap.size (w.alloc (.cells #[.slice A p.parts.length c,.bool true] 68)) w'):=hd_ (by
  have:=zmx p A c _ (hp.below hA) hn.pat;rw[hn.rest] at this;refine this.mono ?_;rintro e w' ⟨rfl,hb⟩;rw[zcy hn,hn.rest];exact⟨rfl,hb⟩)
 have HA:=hd_ hA;have x0:=h2.c0;have x1:=h2.c1;clear hp hn hA h2;go_enter func165,ntmps165;go_wp2_with fail;refine HK.out.mono ?_;rintro e w2 ⟨rfl,hb⟩;dsimp only;have HB:=hd_ (z0r HA.out hb);clear hb x0 x1;go_wp2_with fail;go_ret;exact⟨rfl,HB.out⟩
theorem Row.empty {w w':World}{size n:Nat}{v:Value}{xs:List Value}(h:Row w size v n xs)(hn:n=0):Row w' size v n xs:=by
 obtain⟨A,c,e,hc,hm,hl,h0,-⟩:=h;exact⟨A,c,e,hc,hm,hl,h0,fun h=>absurd h (by omega)⟩
theorem zcx.setB {w wr:World}{g4 g11:Nat}{v:Value}{b b2:Bool}{l:List ByteArray}(h:zcx w wr g4 g11 v b l):zcx w (wr.setCell ⟨g11,1,none⟩ (.bool b2)) g4 g11 v b2 l:=
 ⟨h.low.setCell (p:=⟨g11,1,none⟩) (by show w.heap.size≤g11;have:=h.le4;have:=h.le;omega) _,h.le4,h.le,Blk.far h.box4 (by show g11≠g4;have:=h.le;omega) _,Blk.set_ h.box 1 _,z4r h.own (p:=⟨g11,1,none⟩) h.ne _,h.ne4,h.ne⟩
theorem sbR29 (ops:Array Oper)(hops:Tryz.f113.body.bind (zcn 29)=some ops)(Q:Exit→Act→World→Prop)(w V:World)(g4 g7 g14 n m c7 c:Nat)(A7 C:Option Addr)(l l2:List ByteArray)
  (hI:zcx w V g4 g7 (.slice A7 n c7) false l) (hBB:Blk V g14 228 [.slice C m c,.bool true]) (hS:Strs V (.slice C m c) l2) (hl:l.length=n) (hm:l2.length=m) (hle:n+m≤12) (hne:g14≠g7) (hno:(Value.slice A7 n c7).ownBlock≠some g14) (hCne:0<m→∀ ad,C=some ad→ad.block≠g7)
  (u0 u1 u2 u3 u4 u5 u6 u8 u9 gz gA gC gD gF gG gH gI gJ gK gL gM gN gO gP gQ gR gT gV gW gX gY gZ i6 i7 i8 ia ib ic ie ig ii ij ik il im io ip iq ir iu iv iw ix iy iz iA iB iC iD iE iF iG iH iI iJ iK iL iM iN iO iP iQ iR iS iT iU iV iW iX iY iZ j0 j1 j2 j5 j6 j7 j8 j9 jb jd jf jg jh ji jj jk jl bB bD bE bF bG bH bI bJ bK bL bM bN bO bP bQ bT bU bV bW bX bY:Value)
  (hQ:∀(ai aj ak am ao aq ar au aw:Value) (A':Option Addr) (c':Nat) (w':World),Hid (zcx w w' g4 g7 (.slice A' (n+m) c') true (l++l2))→Q .normal ⟨#[u0,u1,u2,u3,u4,u5,u6,.pointer (some ⟨g7,0,none⟩),u8,u9,gz,gA,gC,gD,.pointer (some ⟨g14,0,none⟩),gF,gG,gH,gI,gJ,gK,gL,gM,gN,gO,gP,gQ,gR,gT,gV,gW,gX,gY,gZ,i6,i7,i8,ia,ib,ic,ie,ig,ii,ij,ik,il,im,io,ip,iq,ir,iu,iv,iw,ix,iy,iz,iA,iB,iC,iD,iE,iF,iG,iH,iI,iJ,iK,iL,iM,iN,iO,iP,iQ,iR,iS,iT,iU,iV,iW,iX,iY,iZ,j0,j1,j2,j5,j6,j7,j8,j9,jb,jd,jf,jg,jh,ji,jj,jk,jl,bB,bD,bE,bF,bG,bH,ai,aj,ak,am,ao,aq,ar,au,aw,bT,bU,bV,bW,bX,bY],[]⟩ w'):
  (Code.region 29 ops true).wp prog Q ⟨#[u0,u1,u2,u3,u4,u5,u6,.pointer (some ⟨g7,0,none⟩),u8,u9,gz,gA,gC,gD,.pointer (some ⟨g14,0,none⟩),gF,gG,gH,gI,gJ,gK,gL,gM,gN,gO,gP,gQ,gR,gT,gV,gW,gX,gY,gZ,i6,i7,i8,ia,ib,ic,ie,ig,ii,ij,ik,il,im,io,ip,iq,ir,iu,iv,iw,ix,iy,iz,iA,iB,iC,iD,iE,iF,iG,iH,iI,iJ,iK,iL,iM,iN,iO,iP,iQ,iR,iS,iT,iU,iV,iW,iX,iY,iZ,j0,j1,j2,j5,j6,j7,j8,j9,jb,jd,jf,jg,jh,ji,jj,jk,jl,bB,bD,bE,bF,bG,bH,bI,bJ,bK,bL,bM,bN,bO,bP,bQ,bT,bU,bV,bW,bX,bY],[]⟩ V:=by
 simp only[Tryz.f113,Option.bind_some,zcn] at hops
 simp at hops
 subst hops;have HQ:=hd_ hQ;have HI:=hd_ hI;obtain⟨x0,x1,f0,f1⟩:=(⟨hI.box.c0,hI.box.c1,hI.box.frozen 0,hI.box.frozen 1⟩:V.cell? ⟨g7,0,none⟩=some (.slice A7 n c7)∧V.cell? ⟨g7,1,none⟩=some (.bool false)∧V.frozen? ⟨g7,0,none⟩=false∧V.frozen? ⟨g7,1,none⟩=false);obtain⟨b0,b1⟩:=(⟨hBB.cell 0,hBB.cell 1⟩:V.cell? ⟨g14,0,none⟩=some (.slice C m c)∧V.cell? ⟨g14,1,none⟩=some (.bool true));have n1:¬(g14=g7):=hne;have n2:¬(g7=g14):=fun e=>hne e.symm;subst hl hm;have hOW:=hI.own;have hWW:w.heap.size≤V.heap.size:=hI.low.size;have HOWN:=hd_ hOW;have HS:=hd_ hS;have HONE:Hid (∀ v∈l2.map Value.string,v.oneCell'=true):=hd_ (fun v hv=>by obtain⟨x,-,rfl⟩:=List.mem_map.1 hv;rfl)
 have HBB:=hd_ hBB;have HI2:=hd_ (hI.setB (b2:=true));have HS2:Hid (Strs (V.setCell ⟨g7,1,none⟩ (.bool true)) (.slice C l2.length c) l2):=hd_ (by
  rcases Nat.eq_zero_or_pos l2.length with h0 | h0
  ·exact Row.empty hS h0
  ·refine Row.set_far hS ?_;intro e;cases C with
   | none=>cases e
   | some ad=>exact hCne h0 ad rfl (by simpa [Value.ownBlock] using e))
 have HNO:=hd_ hno;clear hQ hI hOW hS hBB hCne hno;refine wp_region_noPanic ?_;go_region_law (first
   | (refine zcj (base:=w.heap.size) rfl rfl zl8 HOWN.out (by simp [Act.eval,Act.put];done) HS.out (by simp [Act.eval,Act.put];done) HONE.out (by omega) (by unfold maxLen;omega) hWW ?_;intro A5 c5 w5 hO5 hG5 hw5;have hb5:=Blk.grown (Blk.drew' HI.out.box) hG5 (fun e=>HI.out.ne e.symm);have k5:=Blk.frozen hb5 0;have k6:=Blk.frozen hb5 1;have k7:=Blk.cell hb5 0;have k8:=Blk.cell hb5 1;have k9:=(Blk.grown (Blk.drew' HBB.out) hG5 (fun e=>HNO.out e.symm)).cell 1)
   | (refine zcj (base:=w.heap.size) rfl rfl zl8 HI2.out.own (by simp [Act.eval,Act.put];done) HS2.out (by simp [Act.eval,Act.put];done) HONE.out (by omega) (by unfold maxLen;omega) hWW ?_;intro A5 c5 w5 hO5 hG5 hw5;have hb5:=Blk.grown (Blk.drew' HI2.out.box) hG5 (fun e=>HI2.out.ne e.symm);have k5:=Blk.frozen hb5 0;have k6:=Blk.frozen hb5 1;have k7:=Blk.cell hb5 0;have k8:=Blk.cell hb5 1))
 all_goals first
  | exact NoPanic.normal (HQ.out _ _ _ _ _ _ _ _ _ _ _ _ (hd_ ((HI.out.app (m:=l2) rfl hO5 ⟨hG5.os,hG5.tape,hG5.output,hG5.size,hG5.block⟩ hw5).setB (b2:=true))))
  | exact NoPanic.normal (HQ.out _ _ _ _ _ _ _ _ _ _ _ _ (hd_ (HI2.out.app (m:=l2) rfl hO5 ⟨hG5.os,hG5.tape,hG5.output,hG5.size,hG5.block⟩ hw5)))
theorem zn4 {x:ByteArray}(h:z7g x≠0):z9a x=true:=by
 unfold z9a z99;unfold z7g at h;cases hc:z0v x with
 | true=>simp
 | false =>
  rw[hc] at h;cases hs:z7e x with
  | false=>rw[hs] at h;exact absurd rfl h
  | true =>
   rw[hs] at h;cases ht:z7f x with
   | false=>rw[ht] at h;exact absurd rfl h
   | true=>rfl
theorem zcx.pushS {w wr w2:World}{g4 g11 n:Nat}{v:Value}{b:Bool}{l:List ByteArray}{x:ByteArray}{A':Option Addr}{c':Nat}(h:zcx w wr g4 g11 v b l)(hn:n=l.length)
  (hown:w2.ownsRow w.heap.size 9 1 (.slice A' (n+1) c') (n+1) (l.map .string++[.string x])) (hgr:wr.grownBy w2 v.ownBlock)
  (hob:(Value.slice A' (n+1) c').ownBlock=v.ownBlock∨(Value.slice A' (n+1) c').ownBlock=some wr.heap.size):
  zcx w (w2.setCell ⟨g11,0,none⟩ (.slice A' (n+1) c')) g4 g11 (.slice A' (n+1) c') b (l++[x]):=h.app (m:=[x]) (by rw[hn];rfl) hown hgr hob
theorem zn5 (p:Pat)(l:List ByteArray)(A:Option Addr)(a:Nat)(B1:Addr)(c1:Nat)(C:Option Addr)(m c:Nat)(w:World)(hp:zae w (.slice A p.parts.length a) p)(hn:zcr p)
  (hb:Row w 2 (.slice (some B1) 1 c1) 1 [.slice C m c,.bool true]) (hl:Strs w (.slice C m c) l) (hz:∀ x∈l,x.size≤1000000) (hf:∀ x∈l,z7g x≠0) (hle:p.parts.length+l.length≤12):
  Calls prog 113 #[.agg #[.slice A p.parts.length a,.bool true],.slice (some B1) 1 c1] w (zcw w p l):=by
 have hml:m=l.length:=by obtain⟨A',c',e,-⟩:=id hl;injection e
 subst hml;have hcells:w.cell? B1=some (.slice C l.length c)∧w.cell? ⟨B1.block,B1.off+1,none⟩=some (.bool true)∧B1.block<w.heap.size:=by
  obtain⟨A',c',e,-,-,-,-,hx⟩:=id hb;injection e with e1 e2 e3
  obtain⟨ad,e4,hb4,hc4⟩:=hx (by omega)
  rw[← e1] at e4;injection e4 with e4
  subst e4;have h0:=hc4 0 _ rfl;have h1:=hc4 1 _ rfl;unfold Addr.add at h0 h1;exact⟨by simpa using h0,by simpa using h1,hb4⟩
 have hA:Below w.heap.size w ((w.alloc (.cells #[.slice A p.parts.length a,.bool true] 68)).alloc (.cells #[.slice none 0 0,.bool false] 68)):=((Below.refl _ _).alloc (Nat.le_refl _) _).alloc (by simp) _
 have h2:zbt ((w.alloc (.cells #[.slice A p.parts.length a,.bool true] 68)).alloc (.cells #[.slice none 0 0,.bool false] 68)) w.heap.size (.slice A p.parts.length a) true:=(z0l w [.slice A p.parts.length a,.bool true] 68).alloc _;have h3:zbt ((w.alloc (.cells #[.slice A p.parts.length a,.bool true] 68)).alloc (.cells #[.slice none 0 0,.bool false] 68)) (w.heap.size+1) (.slice none 0 0) false:=by
  have:=z0l (w.alloc (.cells #[.slice A p.parts.length a,.bool true] 68)) [.slice none 0 0,.bool false] 68;rw[World.size_alloc] at this;exact this
 have HCP:Hid (∀ X,Below w.heap.size w X→Calls prog 60 #[.agg #[.slice A p.parts.length a,.bool true]] X fun e w'=>e=.returned (.int .i64 0)∧Below X.heap.size X w'):=hd_ (fun X hX=>by have:=zcf p A a X (hp.below hX).1 hp.small;rw[hn.rest,hn.pat] at this;exact this)
 have HWC:=hd_ (fun X (hX:Below w.heap.size w X)=>zn3 p A a X (hp.below hX) hn);have HST:Hid (∀(k:Nat) (h:k<p.parts.length) X,Calls prog 111 #[.string p.parts[k]] X fun e w'=>∃ s,e=.returned (.tuple #[.string s,.bool false])∧Below X.heap.size X w'):=hd_ fun k h X=>by
  have h0:z99 p.parts[k]=false:=by unfold z99;rw[hn.star _ (List.getElem_mem h)];rfl
  refine (z9s p.parts[k] X (hp.small _ (List.getElem_mem h))).mono ?_;rintro e w' ⟨rfl,rfl⟩;rw[h0];exact⟨_,rfl,Below.refl _ _⟩
 have HPT:Hid (∀(k:Nat) (h:k<l.length) X,Calls prog 110 #[.string l[k]] X fun e w'=>e=.returned (.bool true)∧Below X.heap.size X w'):=hd_ fun k h X=>by
  refine (z9t l[k] X (by have:=hz _ (List.getElem_mem h);unfold maxLen;omega)).mono ?_
  rintro e w' ⟨rfl,rfl⟩;rw[zn4 (hf _ (List.getElem_mem h))];exact⟨rfl,Below.refl _ _⟩
 have HP:=hd_ hp;have HL:=hd_ hl;have HCE:=hd_ hcells;have HLE:=hd_ hle;have hcap:1≤c1:=by
  obtain⟨A',c',e,h1,-⟩:=id hb;injection e with e1 e2 e3
  omega
 clear hp hn hl hcells hz hf hb;go_enter func113,ntmps113;go_upto_region 1 with fail;generalize (w.alloc (.cells #[.slice A p.parts.length a,.bool true] 68)).alloc (.cells #[.slice none 0 0,.bool false] 68)=W1 at hA h2 h3 ⊢;have x0:=h2.c0;have x1:=h2.c1;have H:=hd_ (And.intro hA (And.intro h2 h3));have HC1:=hd_ (HCP.out W1 hA);clear hA h2 h3;go_wp2_with fail;refine HC1.out.mono ?_;rintro e w2 ⟨rfl,hb⟩;dsimp only;have HB:=hd_ (z0r H.out.1 hb);have HG:=hd_ (And.intro (H.out.2.1.low hb) (H.out.2.2.low hb));have HC2:=hd_ (HWC.out w2 HB.out);clear hb x0 x1;have x0:=HG.out.1.c0;have x1:=HG.out.1.c1;go_wp2_with fail;refine HC2.out.mono ?_;rintro e w3 ⟨rfl,hb⟩;dsimp only;have HB3:=hd_ (z0r HB.out hb);have HG3:=hd_ (And.intro (HG.out.1.low hb) (HG.out.2.low hb));clear hb x0 x1;have HS:Hid (zcx w (w3.alloc (.cells #[.slice none 0 0,.bool false] 68)) (w.heap.size+1) w3.heap.size (.slice none 0 0) false []):=hd_ (by
  have hba:Below w3.heap.size w3 (w3.alloc (.cells #[.slice none 0 0,.bool false] 68)):=(Below.refl _ _).alloc (Nat.le_refl _) _;have hl4:=Blk.lt HG3.out.2;exact⟨z0r HB3.out hba,by omega,by omega,HG3.out.2.low hba,z0l w3 _ _,World.ownsRow_nil _ _ _ _,(fun e=>by cases e),(fun e=>by cases e)⟩)
 have HGS:Hid (zbt (w3.alloc (.cells #[.slice none 0 0,.bool false] 68)) w.heap.size (.slice A p.parts.length a) true∧w.heap.size<w3.heap.size):=hd_ ⟨HG3.out.1.low ((Below.refl _ _).alloc (Nat.le_refl _) _),Blk.lt HG3.out.1⟩;have x0:=HGS.out.1.c0;go_upto_region 7 with fail;generalize w3.alloc (.cells #[.slice none 0 0,.bool false] 68)=W4 at HS HGS x0 ⊢;generalize w3.heap.size=g7 at HS HGS ⊢;go_wp2_with fail;clear x0;go_loopw [8,32] (fun z i wr=>∃(k:Nat) (v:Value),z=.int .i64 0∧i=.int .i64 k∧k≤p.parts.length∧Hid (zcx w wr (w.heap.size+1) g7 v false (p.parts.take k)∧zbt wr w.heap.size (.slice A p.parts.length a) true)) (fun _ i _=>p.parts.length - (intOf i).toNat)
 case atStart=>exact⟨0,_,rfl,rfl,Nat.zero_le _,hd_ ⟨HS.out,HGS.out.1⟩⟩
 case round =>
  obtain⟨k,v,rfl,rfl,hk,HI⟩:=hrel;clear HS;by_cases hlt:k<p.parts.length
  ·obtain⟨ad,rfl,hab,s0⟩:=Strs.at_ (HP.out.below HI.out.1.low).1 hlt;have HCI:=hd_ (HST.out k hlt wr);have HLT:=hd_ hlt;have HTK:=hd_ (show p.parts.take (k+1)=p.parts.take k++[p.parts[k]] from List.take_succ_eq_append_getElem hlt);have hkl:(p.parts.take k).length=k:=by rw[List.length_take];omega
   obtain⟨Av,cv,hv⟩:=z0o HI.out.1.own;rw[hkl] at hv;subst hv;generalize p.parts[k]=u at s0 HCI HTK;go_wp2_with fail;refine HCI.out.mono ?_;rintro e w4 ⟨s,rfl,hb⟩;dsimp only;have HI4:=hd_ (HI.out.1.under hb);have HPB4:=hd_ (HI.out.2.low hb);clear hb s0;have y0:=HI4.out.box.c0;have f0:=HI4.out.box.frozen 0;have hba:Below w4.heap.size w4 (w4.alloc (.cells #[.string u] 9)):=(Below.refl _ _).alloc (Nat.le_refl _) _;have HI5:=hd_ (HI4.out.under hba);have HPB5:=hd_ (HPB4.out.low hba);have ho5:=HI5.out.own;rw[hkl] at ho5;have HO5:=hd_ ho5;have HKL:=hd_ hkl;have hrow:=z0i w4 [.string u] 9 1 1 rfl (by unfold maxLen;omega) w4.heap.size rfl
   have hsz:=HI5.out.low.size;have hp12:=HLE.out;clear ho5 hba hkl;go_wp2_with (at_builtin;refine z0j rfl rfl zl8 HO5.out rfl hrow rfl (by simp [Value.oneCell']) (by omega) (by unfold maxLen;omega) hsz ?_;intro A' c' w6 hown hgr hob;have hbg:=Blk.grown HI5.out.box hgr (fun e=>HI5.out.ne e.symm);have z0:=Blk.cell hbg 0;have zf:=Blk.frozen hbg 0)
   have HN6:=hd_ (HI5.out.pushS (x:=u) HKL.out.symm hown hgr hob);have hpn:=zkh HI5.out.own HPB5.out (by decide)
   have HPB6:=hd_ (Blk.far (Blk.grown HPB5.out hgr (fun e=>hpn e.symm)) (p:=⟨g7,0,none⟩) (by show g7≠w.heap.size;have:=HGS.out.2;omega) (.slice A' (k+1) c'))
   rw[← HTK.out] at HN6;clear hown hgr hob hbg z0 zf y0 f0 hrow hpn;go_wp2_with fail;go_roundw
   case rel=>exact⟨k+1,_,rfl,by go_num,by have:=HLT.out;omega,hd_ ⟨HN6.out,HPB6.out⟩⟩
   case measure=>have:=HLT.out;simp [intOf];omega
  ·have hke:k=p.parts.length:=by omega
   have HS3:Hid (zcx w wr (w.heap.size+1) g7 v false p.parts):=hd_ (by have:=HI.out.1;rw[hke,List.take_length] at this;exact this)
   obtain⟨Av,cv,rfl⟩:=z0o HS3.out.own;have b0:wr.cell? B1=some (.slice C l.length c):=(HS3.out.low.cell HCE.out.2.2).trans HCE.out.1;have b1:wr.cell? ⟨B1.block,B1.off+1,none⟩=some (.bool true):=(HS3.out.low.cell (p:=⟨B1.block,B1.off+1,none⟩) HCE.out.2.2).trans HCE.out.2.1;have x1:=HI.out.2.c1;have hba:Below wr.heap.size wr (wr.alloc (.cells #[.slice C l.length c,.bool true] 228)):=(Below.refl _ _).alloc (Nat.le_refl _) _;have HBX:=hd_ (z0l wr [.slice C l.length c,.bool true] 228);have HS4:=hd_ (HS3.out.under hba);have HNO:Hid ((Value.slice Av p.parts.length cv).ownBlock≠some wr.heap.size∧g7<wr.heap.size):=hd_ ⟨fun e=>by have:=(HS3.out.own.lt _ e).2;omega,Blk.lt HS3.out.box⟩
   clear hba hke hk HI;go_upto_region 21 with fail;generalize wr.alloc (.cells #[.slice C l.length c,.bool true] 228)=W5 at HBX HS4 ⊢;generalize wr.heap.size=g14 at HBX HNO ⊢;clear b0 b1 x1 HS3;have d0:W5.cell? ⟨g14,0,none⟩=some (.slice C l.length c):=HBX.out.cell 0;have d1:W5.cell? ⟨g14,1,none⟩=some (.bool true):=HBX.out.cell 1;obtain⟨cc,hcc⟩:∃ cc,((l.length:Int) == 0)=cc:=⟨_,rfl⟩;have HL5:=hd_ (fun X (hX:Below W5.heap.size W5 X)=>Strs.below HL.out (z0r HS4.out.low hX));have hl12:=HLE.out;have HIN:Hid (∀ X,Below W5.heap.size W5 X→Blk X g14 228 [.slice C l.length c,.bool true]∧zcx w X (w.heap.size+1) g7 (.slice Av p.parts.length cv) false p.parts):=hd_ fun X hX=>⟨HBX.out.below hX HBX.out.lt,HS4.out.under hX⟩;cases cc
   all_goals
    clear HBX HS4;go_wp2_with fail;clear hcc d0 d1;go_loopw [97] (fun i wr=>∃ k:Nat,i=.int .i64 k∧k≤l.length∧Hid (Below W5.heap.size W5 wr)) (fun i _=>l.length - (intOf i).toNat)
    case atStart=>exact⟨0,rfl,Nat.zero_le _,hd_ (Below.refl _ _)⟩
    case round =>
     obtain⟨k,rfl,hk,HI⟩:=hrel;by_cases hlt:k<l.length
     ·obtain⟨ad,rfl,hab,s0⟩:=Strs.at_ (HL5.out wr HI.out) hlt;have HCI:=hd_ (HPT.out k hlt wr);have HLT:=hd_ hlt;generalize l[k]=u at s0 HCI;go_wp2_with fail;refine HCI.out.mono ?_;rintro e w4 ⟨rfl,hb⟩;dsimp only;have HB4:=hd_ (z0r HI.out hb);clear hb s0;go_wp2_with fail;go_roundw
      case rel=>exact⟨k+1,by go_num,by have:=HLT.out;omega,HB4⟩
      case measure=>have:=HLT.out;simp [intOf];omega
     ·obtain⟨hbx,hsx⟩:=HIN.out wr HI.out;have hs:=HL5.out wr HI.out;go_upto_region 29 with fail;refine sbR29 _ (by kernel_rfl) _ w wr (w.heap.size+1) g7 g14 p.parts.length l.length cv c Av C p.parts l hsx hbx hs rfl rfl hl12 (by have:=HNO.out.2;omega) HNO.out.1 (fun h0 ad e=>by
       obtain⟨A9,c9,e9,-,-,-,-,h9⟩:=id HL.out;obtain⟨ad9,e10,hb9,-⟩:=h9 h0;injection e9 with e9 _ _
       rw[e,e10] at e9;injection e9 with e9
       rw[e9];have:=HGS.out.2;omega) _ _ _ _ _ _ _ _ _ _ _ _ _ _ _ _ _ _ _ _ _ _ _ _ _ _ _ _ _ _ _ _ _ _ _ _ _ _ _ _ _ _ _ _ _ _ _ _ _ _ _ _ _ _ _ _ _ _ _ _ _ _ _ _ _ _ _ _ _ _ _ _ _ _ _ _ _ _ _ _ _ _ _ _ _ _ _ _ _ _ _ _ _ _ _ _ _ _ _ _ _ _ _ _ _ _ _ _ _ _ _ _ _ _ _ _ _ _ _ ?_
      intro ai aj ak am ao aq ar au aw A' c' w6 HP6;clear hbx hsx hs;have y0:=HP6.out.box.c0;have y1:=HP6.out.box.c1;obtain⟨u0,u1,u2,u3⟩:=HP6.out.box4.all;have q12:decide ((12:Int)<(p.parts.length:Int)+(l.length:Int))=false:=by simp;omega
      have q13:decide (12<p.parts.length+l.length)=false:=by simp;omega
      have hne:¬(w.heap.size+1=g7):=by have:=HP6.out.le;omega
      have hne2:¬(g7=w.heap.size+1):=by have:=HP6.out.le;omega
      go_wp2_with fail;have hE:=zbt.put HP6.out.box4 (.slice A' (p.parts.length+l.length) c') true;have hb:=zbu HP6.out.low (g:=w.heap.size+1) (by omega) (.slice A' (p.parts.length+l.length) c') (.bool true)
      have hO:=Row.of_own (z4r (z4r HP6.out.own (p:=⟨w.heap.size+1,0,none⟩) HP6.out.ne4 (.slice A' (p.parts.length+l.length) c')) (p:=⟨w.heap.size+1,1,none⟩) HP6.out.ne4 (.bool true));generalize (w6.setCell ⟨w.heap.size+1,0,none⟩ (.slice A' (p.parts.length+l.length) c')).setCell ⟨w.heap.size+1,1,none⟩ (.bool true)=W8 at hE hb hO ⊢;obtain⟨-,-,c0,c1⟩:=hE.all;refine bodyPost_ret (v:=.tuple #[.agg #[.slice A' (p.parts.length+l.length) c',.bool true],.int .i64 0]) (by simp [results,results113,go_sem,c0,c1]) rfl ⟨hb,A',c',rfl,fun x hx=>(HP6.out.own.lt x hx).1,?_⟩
      show Row W8 1 _ (p.parts++l).length _
      have e:(p.parts++l).length=p.parts.length+l.length:=List.length_append;rw[e] at hO ⊢;exact hO
def zom:List ByteArray:=[⟨#[97]⟩,⟨#[98,98]⟩,⟨#[36,73,100,36]⟩,⟨#[36,73,100,58,32,120,36,99]⟩,⟨#[97,98]⟩,⟨#[97,98,99]⟩,⟨#[120,47,121]⟩,⟨#[36,80,97,116,104,36,32,36,73,100,36]⟩]
theorem zon:∀ s∈zom,s.size≤20:=by decide
structure zoo (w wr:World)(U g m:Nat)(v:Value)(n:Nat):Prop where
 kept:z6y [g] w wr
 tape:zgm wr U g m
 own:zog wr w.heap.size v n
 gU:g<w.heap.size
 UU:U≤w.heap.size
section
variable {w wr w' : World} {U g m m' n : Nat} {v : Value}
theorem zoo.next (h:zoo w wr U g m v n)(hK:z6y [g] wr w')(hT:zgm w' U g m'):zoo w w' U g m' v n:=
 ⟨h.kept.trans hK,hT,h.own.keepAt fun x h1 h2 _=>hK.block x h2 (by have:=h.gU;rw[List.mem_singleton];omega),h.gU,h.UU⟩
theorem zoo.under (h:zoo w wr U g m v n)(hb:Below wr.heap.size wr w'):zoo w w' U g m v n:=h.next (z6y.below hb) (h.tape.below hb)
theorem zoo.push {v':Value}{n':Nat}(h:zoo w wr U g m v n)(ho:zog w' w.heap.size v' n')(hg:wr.grownBy w' v.ownBlock):zoo w w' U g m v' n':=by
 have hlt:=h.own.lt;have hUU:=h.UU;exact⟨h.kept.grown_own hg (fun x e=>(hlt x e).1),h.tape.keep hg.size (fun x hx=>hg.block x (by have:=h.kept.size;omega) (fun e=>by have:=(hlt x e.symm).1;omega)),ho,h.gU,h.UU⟩
end
def WbPost (w:World)(U g m:Nat)(e:Ending)(w':World):Prop:=∃(v:Value) (n:Nat),e=.returned v∧n≤100∧zog w' w.heap.size v n∧zgm w' U g m∧z6y [g] w w'
theorem zop (U g m:Nat)(w:World)(hT:zgm w U g m)(hU:U≤w.heap.size)(hm:m≤100000):
  Calls prog 161 #[.pointer (some ⟨g,0,none⟩)] w (WbPost w U g (m+5)):=by
 have hgl:g<w.heap.size:=by have:=hT.ltU;omega
 have hA:Below w.heap.size w (w.alloc (.cells (zom.map Value.string).toArray 9)):=(Below.refl _ _).alloc (Nat.le_refl _) _;have HB:Hid (Blk _ _ 9 (zom.map Value.string)):=hd_ (z0l w _ _);have HN:=hd_ (zgn U g m 8 _ (hT.below hA) (by omega) (by omega))
 have HA:=hd_ (z6y.below (S:=[g]) hA);have HG:Hid (g<w.heap.size∧U≤w.heap.size):=hd_ ⟨hgl,hU⟩;have hcv:=fun W s=>run_cvt (P:=prog) W 9 219 5 s underlying9 underlying219 underlying5;have HCV:=hd_ hcv;clear hT hU hA hgl hcv;go_enter func161,ntmps161;go_upto_region 2 with fail;change _ at HN;have e0:w.alloc (.cells (zom.map Value.string).toArray 9)=w.alloc (.cells #[.string ⟨#[97]⟩,.string ⟨#[98,98]⟩,.string ⟨#[36,73,100,36]⟩,.string ⟨#[36,73,100,58,32,120,36,99]⟩,.string ⟨#[97,98]⟩,.string ⟨#[97,98,99]⟩,.string ⟨#[120,47,121]⟩,.string ⟨#[36,80,97,116,104,36,32,36,73,100,36]⟩] 9):=rfl;rw[← e0];clear e0;generalize w.alloc (.cells (zom.map Value.string).toArray 9)=W1 at HB HN HA ⊢;go_wp2_with fail;refine HN.out.mono ?_;rintro e w2 ⟨k,rfl,hk,hT2,hK2⟩;dsimp only;obtain⟨j,rfl⟩:∃ j:Nat,k=j:=⟨k.toNat,by have:=hk.1;omega⟩
 have hj:j<8:=by have:=hk.2.1 (by omega);omega
 have s0:w2.cell? ⟨w.heap.size,j,none⟩=some (.string (zom[j]'hj)):=((hK2.blk HB.out (by simp;have:=HG.out;omega)).cell j).trans (by rw[List.getElem?_map,List.getElem?_eq_getElem (show j<zom.length from hj)];rfl)
 have hz:(zom[j]'hj).size≤20:=zon _ (List.getElem_mem _);generalize zom[j]'hj=s at s0 hz;have HS:Hid (zoo w (cvtW w2 s 5) U g (m+1) (.slice (some (cvtA w2)) s.size (z0c w2 s 5)) s.size):=hd_ (by
  have hb:=z0d w2 s 5;have hsz:=hK2.size;have hsz2:=HA.out.size;have ho:=zok w2 s (by omega)
  refine⟨(HA.out.trans hK2).under hb,hT2.below hb,?_,HG.out.1,HG.out.2⟩;obtain⟨g',cap,cur,fz,e1,e2,e3⟩:=ho;exact⟨g',cap,cur,fz,e1,by omega,e3⟩)
 have hcv:=HCV.out;have hz8:(j:Int)<8:=by omega
 clear hk hT2 hK2 hj HB HN HA HCV;go_upto_region 3 with fail;generalize cvtW w2 s 5=W3 at HS ⊢;generalize cvtA w2=A0 at HS ⊢;generalize z0c w2 s 5=c0 at HS ⊢;clear s0 hcv hz8;have HX:=hd_ (zgn U g (m+1) 4 W3 HS.out.tape (by omega) (by omega))
 go_wp2_with fail;refine HX.out.mono ?_;rintro e w4 ⟨k,rfl,hk,hT4,hK4⟩;dsimp only;obtain⟨j4,rfl⟩:∃ j:Nat,k=j:=⟨k.toNat,by have:=hk.1;omega⟩
 have hj4:j4≤3:=by have:=hk.2.1 (by omega);omega
 have HS4:=hd_ (HS.out.next hK4 hT4);clear hk hT4 hK4 HX HS;go_wp2_with fail;go_loopw [4,5] (fun v i wr=>∃(j n:Nat) (A:Option Addr) (c:Nat),v=.slice A n c∧i=.int .i64 j∧n+j≤23∧j≤3∧Hid (∃ m',m'+j≤m+5∧zoo w wr U g m' v n)) (fun _ i _=>(intOf i).toNat)
 case atStart=>exact⟨j4,s.size,some A0,c0,rfl,rfl,by omega,hj4,hd_ ⟨m+1+1,by omega,HS4.out⟩⟩
 case round =>
  obtain⟨j,n,A,c,rfl,rfl,hnj,hj3,HI⟩:=hrel;clear HS4;by_cases h1:0<j
  ·obtain⟨m',hm',hS⟩:=HI.out;have HS:=hd_ hS;have HM:=hd_ hm';have q1:decide ((0:Int)<(j:Int))=true:=by simp;omega
   have HX:=hd_ (zgn U g m' 3 wr hS.tape (by omega) (by omega))
   have HH:=hd_ (And.intro h1 (And.intro hnj hj3));clear hS hm' HI hnj hj3;go_wp2_with fail;refine HX.out.mono ?_;rintro e w5 ⟨k,rfl,hk,hT5,hK5⟩;dsimp only;have hk3:0≤k∧k<3:=⟨hk.1,hk.2.1 (by omega)⟩
   have q3:IntKind.i64.wrap (97+k)=97+k:=by rw[IntKind.wrap_i64];omega
   have q4:IntKind.u8.wrap (97+k)=97+k:=by simp [IntKind.wrap,IntKind.bits,IntKind.signed];omega
   have HS5:=hd_ ((HS.out.next hK5 hT5).under ((Below.refl w5.heap.size w5).alloc (Nat.le_refl _) (.cells #[.int .u8 (97+k)] 5)));have HY:Hid ((w5.alloc (.cells #[.int .u8 (97+k)] 5)).cell? ⟨w5.heap.size,0,none⟩=some (.int .u8 (97+k))):=hd_ ((z0l w5 [.int .u8 (97+k)] 5).cell 0);clear hk hT5 hK5 HX HS;go_wp2_with (at_builtin;refine zol rfl rfl HS5.out.own rfl rfl (k:=97+k) (by omega) HY.out (by have:=HH.out;omega) (by have:=HS5.out.kept.size;exact this) ?_;intro A' c' w6 ho hg)
   have HN:=hd_ (HS5.out.push ho hg);have q5:IntKind.i64.wrap ((j:Int) - 1)=((j - 1:Nat):Int):=by rw[IntKind.wrap_i64];have:=HH.out;omega
   have hj3:=HH.out.2.2;clear ho hg q3 q4;go_wp2_with fail;go_roundw
   case rel=>exact⟨j - 1,n+1,A',c',rfl,by first | rfl | go_num | (have:=HH.out;refine congrArg _ ?_;unfold wrap64;omega),by have:=HH.out;omega,by have:=HH.out;omega,hd_ ⟨m'+1,by have:=HM.out;have:=HH.out;omega,HN.out⟩⟩
   case measure=>have:=HH.out;simp [intOf,wrap64];omega
  ·have hj0:j=0:=by omega
   subst hj0;obtain⟨m',hm',hS⟩:=HI.out;have HF:Hid (WbPost w U g (m+5) (.returned (.slice A n c)) wr):=hd_ ⟨_,n,rfl,by omega,hS.own,hS.tape.mono (by omega),hS.kept⟩
   clear hS hm' HI;go_wp2_with fail;go_ret;exact HF.out
