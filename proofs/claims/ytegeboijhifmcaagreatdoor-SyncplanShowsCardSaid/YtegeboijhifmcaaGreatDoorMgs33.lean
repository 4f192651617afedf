/- A part of the proof. -/
import Derived.Test.YtegeboijhifmcaaGreatDoorMgs24
import Derived.Test.YtegeboijhifmcaaGreatDoorMgs22
set_option linter.unusedVariables false
set_option linter.unusedSimpArgs false
set_option maxHeartbeats 16000000
set_option maxRecDepth 100000
namespace Go.Proofs.YtegeboijhifmcaaGreatDoor
open Go.RowKit
theorem zgo {p:ByteArray}(h:p=knA∨p=knB):z2s p=true∧p.size≤200∧p.size≤140737488355328:=by
 rcases h with rfl | rfl
 ·exact⟨by decide,by decide,by decide⟩
 ·exact⟨by decide,by decide,by decide⟩
theorem knEvery (g bl be bn:Nat)(Ae:Option Addr)(ce:Nat)(w:World)(hk:Chk w g (.slice none 0 0) (.slice none 0 0) 1 ⟨#[]⟩ ⟨#[]⟩ (.slice Ae 2 ce) (.slice none 0 0) bl be bn)(hL:z7r w bl zgn)(hne:bl≠be)(hE:KnE w Ae ce){F:ByteArray→Option Edt}(hM:z7s w be F):
  Calls Tryz.prog 114 #[.pointer (some ⟨g,0,none⟩)] w fun e w'=>e=.returned (.int .i64 0)∧w.grownBy w' (some be):=by
 obtain⟨-,-,-,k5,-,-,-,-⟩:=z4a hk;have hobj:=z2f.obj hM;have HE:=hd_ hE;have HK:=hd_ hk;have HL:=hd_ hL;have HM:=hd_ hM;clear hE hk hL hM;go_enter Tryz.func114,Tryz.ntmps114;go_wp2_with fail;go_loopw [3,13] (fun b i wr=>∃(k:Nat) (b0:ByteArray) (F:ByteArray→Option Edt),i=.int .i64 k∧k≤2∧b=.string b0∧b0.size≤200∧Hid ((k=0→b0=z2l)∧(k=1→b0=knA))∧w.grownBy wr (some be)∧z7s wr be F) (fun _ i _=>2 - (intOf i).toNat)
 case atStart=>exact⟨0,z2l,F,rfl,by omega,rfl,by decide,hd_ ⟨fun _=>rfl,fun e=>by cases e⟩,World.grownBy.refl _ _,HM.out⟩
 case round =>
  obtain⟨k,b0,G,rfl,hk,rfl,hb0,HB0,hg,hM⟩:=hrel;have hKr:=Blk.turn HK.out hobj hg;have hLr:=z2f.grown HL.out hg (by intro e;injection e with e;exact hne e)
  have hEr:KnE wr Ae ce:=Row.turn HE.out (by decide) hobj hg
  by_cases hlt:k<2
  ·obtain⟨ad,p,rfl,hab,⟨x0,x1,x2,x3,x4,x5,x6,x7,x8,x9,x10,x11⟩,hp0,hp1⟩:=hEr.at_ k hlt;have hpp:p=knA∨p=knB:=by
    rcases (by omega:k=0∨k=1) with h | h
    ·exact .inl (hp0 h)
    ·exact .inr (hp1 h)
   obtain⟨hv,h200,hxs⟩:=zgo hpp;have HST:Hid ((k+1=0→p=z2l)∧(k+1=1→p=knA)):=hd_ ⟨fun e=>by omega,fun e=>hp0 (by omega)⟩
   have hcase:b0=z2l∨(b0≠z2l∧z2u b0 p<0):=by
    rcases (by omega:k=0∨k=1) with h | h
    ·exact .inl (HB0.out.1 h)
    ·rw[HB0.out.2 h,hp1 h];exact .inr ⟨by decide,by decide⟩
   have hgx:=hg.trans (zay ((Below.refl wr.heap.size wr).alloc (Nat.le_refl _) (.cells #[.string p,.int .i64 1,.int .i64 1,.bool false,.bool false,.bool false,.int .u64 1,.int .i64 1,.int .i64 0,.string ⟨#[]⟩,.int .i64 0,.int .i64 0] 90)) _);have HVA:=hd_ (fun W=>zb0 p true hv W hxs);have hX:=z0l wr [.string p,.int .i64 1,.int .i64 1,.bool false,.bool false,.bool false,.int .u64 1,.int .i64 1,.int .i64 0,.string ⟨#[]⟩,.int .i64 0,.int .i64 0] 90;have hKx:=Blk.alloc hKr (.cells #[.string p,.int .i64 1,.int .i64 1,.bool false,.bool false,.bool false,.int .u64 1,.int .i64 1,.int .i64 0,.string ⟨#[]⟩,.int .i64 0,.int .i64 0] 90);have hLx:=z2f.alloc hLr (.cells #[.string p,.int .i64 1,.int .i64 1,.bool false,.bool false,.bool false,.int .u64 1,.int .i64 1,.int .i64 0,.string ⟨#[]⟩,.int .i64 0,.int .i64 0] 90);have hMx:=z2f.alloc hM (.cells #[.string p,.int .i64 1,.int .i64 1,.bool false,.bool false,.bool false,.int .u64 1,.int .i64 1,.int .i64 0,.string ⟨#[]⟩,.int .i64 0,.int .i64 0] 90);have qs:¬(200:Int)<(p.size:Int):=by omega
   have qs':¬ 200<p.size:=by omega
   have q2:decide ((k:Int)<2)=true:=by simp;omega
   have h200':=h200;clear hv hp0 hp1 hpp hKr hLr hEr hM HB0 h200;rcases hcase with hbe | ⟨hbe,hcp⟩
   ·have s1:=ze4 hbe;clear hbe;go_wp2_with fail;refine (HVA.out _).mono ?_;rintro e w1 ⟨rfl,rfl⟩;go_upto_region 9 with fail;clear s1 x0 x1 x2 x3 x4 x5 x6 x7 x8 x9 x10 x11;generalize wr.alloc (.cells #[.string p,.int .i64 1,.int .i64 1,.bool false,.bool false,.bool false,.int .u64 1,.int .i64 1,.int .i64 0,.string ⟨#[]⟩,.int .i64 0,.int .i64 0] 90)=W1 at hgx hX hKx hLx hMx ⊢;generalize wr.heap.size=g5 at hX ⊢;obtain⟨c0,c1,c2,c3,c4,c5,c6,c7,c8,c9,c10,c11⟩:=z7z hX;have HON:=hd_ (knOne p g bl be bn (some ad) ce _ hKx hLx);go_wp2_with fail;refine HON.out.mono ?_;rintro e w2 ⟨rfl,hb2⟩;have hX2:=hX.below hb2 hX.lt;have hg2:=hgx.trans (zay hb2 _);have hK2:=Blk.below hKx hb2 (Blk.lt hKx);have hM2:=z2f.below hMx hb2;obtain⟨w3,hup,hM3,hg3,hs3⟩:=z2f.update (w:=w2.drew) hM2 z7q Tryz.underlying180 p (knE p);have hup':(Instr.mapUpdate 180 (.map (some be)) (.string p) (.agg #[.string p,.int .i64 1,.int .i64 1,.bool false,.bool false,.bool false,.int .u64 1,.int .i64 1,.int .i64 0,.string ⟨#[]⟩,.int .i64 0,.int .i64 0])).run Tryz.prog w2.drew=.ok () w3:=hup;have hX3:=Blk.grown (w:=w2.drew) hX2 hg3 (by intro e;injection e with e;subst e;obtain⟨_,_,ho⟩:=z2f.obj hM2;unfold Blk at hX2;rw[ho] at hX2;cases hX2)
    have hgw3:w.grownBy w3 (some be):=(hg2.trans (zay (Below.refl _ _).drew _)).trans hg3;obtain⟨-,-,-,-,-,-,k8,-⟩:=z4a hK2;clear c0 c1 c2 c3 c4 c5 c6 c7 c8 c9 c10 c11;obtain⟨c0,c1,c2,c3,c4,c5,c6,c7,c8,c9,c10,c11⟩:=z7z hX2;clear hup;go_wp2_with fail;go_still_tail 7,(by kernel_rfl)
    change wpList _ _ _ _ _ w2.drew;clear c0 c1 c2 c3 c4 c5 c6 c7 c8 c9 c10 c11;obtain⟨c0,c1,c2,c3,c4,c5,c6,c7,c8,c9,c10,c11⟩:=z7z hX3;go_wp2_with fail;go_roundw
    case rel=>exact⟨k+1,p,_,by go_num,by omega,rfl,by omega,HST,hgw3,hM3⟩
    case measure=>simp [intOf];omega
   ·have s1:=ze5 hbe;have s2:=ze6 hbe;clear hbe;have HCP:=hd_ (z3m b0 p (wr.alloc (.cells #[.string p,.int .i64 1,.int .i64 1,.bool false,.bool false,.bool false,.int .u64 1,.int .i64 1,.int .i64 0,.string ⟨#[]⟩,.int .i64 0,.int .i64 0] 90)) (by omega) hxs)
    have qc:¬ 0≤z2u b0 p:=by omega
    go_wp2_with fail;refine (HVA.out _).mono ?_;rintro e w1 ⟨rfl,rfl⟩;go_wp2_with fail;refine HCP.out.mono ?_;rintro e w1 ⟨rfl,hq1⟩;have hb1:=hq1.below (World.heap (wr.alloc (.cells #[.string p,.int .i64 1,.int .i64 1,.bool false,.bool false,.bool false,.int .u64 1,.int .i64 1,.int .i64 0,.string ⟨#[]⟩,.int .i64 0,.int .i64 0] 90))).size;have hX:=hX.below hb1 hX.lt;have hKx:=Blk.below hKx hb1 (Blk.lt hKx);have hLx:=z2f.below hLx hb1;have hMx:=z2f.below hMx hb1;have hgx:=hgx.trans (zay hb1 _);clear hq1 hb1;go_upto_region 9 with fail;clear s1 s2 qc hcp x0 x1 x2 x3 x4 x5 x6 x7 x8 x9 x10 x11;have W1:=w1;generalize wr.heap.size=g5 at hX ⊢;obtain⟨c0,c1,c2,c3,c4,c5,c6,c7,c8,c9,c10,c11⟩:=z7z hX;have HON:=hd_ (knOne p g bl be bn (some ad) ce _ hKx hLx);go_wp2_with fail;refine HON.out.mono ?_;rintro e w2 ⟨rfl,hb2⟩;have hX2:=hX.below hb2 hX.lt;have hg2:=hgx.trans (zay hb2 _);have hK2:=Blk.below hKx hb2 (Blk.lt hKx);have hM2:=z2f.below hMx hb2;obtain⟨w3,hup,hM3,hg3,hs3⟩:=z2f.update (w:=w2.drew) hM2 z7q Tryz.underlying180 p (knE p);have hup':(Instr.mapUpdate 180 (.map (some be)) (.string p) (.agg #[.string p,.int .i64 1,.int .i64 1,.bool false,.bool false,.bool false,.int .u64 1,.int .i64 1,.int .i64 0,.string ⟨#[]⟩,.int .i64 0,.int .i64 0])).run Tryz.prog w2.drew=.ok () w3:=hup;have hX3:=Blk.grown (w:=w2.drew) hX2 hg3 (by intro e;injection e with e;subst e;obtain⟨_,_,ho⟩:=z2f.obj hM2;unfold Blk at hX2;rw[ho] at hX2;cases hX2)
    have hgw3:w.grownBy w3 (some be):=(hg2.trans (zay (Below.refl _ _).drew _)).trans hg3;obtain⟨-,-,-,-,-,-,k8,-⟩:=z4a hK2;clear c0 c1 c2 c3 c4 c5 c6 c7 c8 c9 c10 c11;obtain⟨c0,c1,c2,c3,c4,c5,c6,c7,c8,c9,c10,c11⟩:=z7z hX2;clear hup;go_wp2_with fail;go_still_tail 7,(by kernel_rfl)
    change wpList _ _ _ _ _ w2.drew;clear c0 c1 c2 c3 c4 c5 c6 c7 c8 c9 c10 c11;obtain⟨c0,c1,c2,c3,c4,c5,c6,c7,c8,c9,c10,c11⟩:=z7z hX3;go_wp2_with fail;go_roundw
    case rel=>exact⟨k+1,p,_,by go_num,by omega,rfl,by omega,HST,hgw3,hM3⟩
    case measure=>simp [intOf];omega
  ·have q2:decide ((k:Int)<2)=false:=by simp;omega
   go_wp2_with fail;go_ret;exact⟨rfl,hg⟩
open Go.Sort (grow)
section
variable {u0 u1 u2 u3 u4 u5 u6 u7 u8 u9 gn gt gu gx gy gz gA gC gD gE gF gG gH gI gJ gK gL gM gN gO gP gQ gR gT gV gW gX gY gZ i6 i7 i8 ia ib ic ie ig ii ij ik il im io ip iq ir iu iv iw ix iy iz iA iB iC iD iE iF iG iH iI iJ iK iL iM iN iO iP iQ iR iS iT iU iV iW iX iY iZ j0 j1 j2 j5 j6 j7 j8 j9 jb jd je jf bw bz bA bB bD bE bF bG bH bI bJ bK bL bM bN bO bP bQ bT bU bV bW bX bY bZ ca cj : Value}
theorem bkR23 (ops:Array Oper)(hops:Tryz.f38.body.bind (zci 23)=some ops)(Q:Exit→Act→World→Prop)(V1:World)(g n c i g13:Nat)(x:Syn)(hp:ByteArray)
  (hx:z50 V1 ⟨g,i * 5,none⟩ x) (hh:V1.cell? ⟨g13,0,none⟩=some (.string hp)) (hi:i<n)
  (hQ:∀(fV fW fX fY fZ ga gb gf gg gh gi gj gm aa:Value) (w':World),Below V1.heap.size V1 w'→Q .normal ⟨#[u0,.slice (some ⟨g,0,none⟩) n c,u2,u3,u4,u5,u6,u7,u8,u9,gn,gt,gu,.pointer (some ⟨g13,0,none⟩),gy,.int .i64 i,gA,gC,gD,gE,gF,gG,gH,gI,gJ,gK,gL,gM,gN,gO,gP,gQ,gR,gT,gV,gW,gX,gY,gZ,i6,i7,i8,ia,ib,ic,ie,ig,ii,ij,ik,il,im,io,ip,iq,ir,iu,iv,iw,ix,iy,iz,iA,iB,iC,iD,iE,iF,iG,iH,iI,iJ,iK,iL,iM,iN,iO,iP,iQ,iR,iS,iT,iU,iV,iW,iX,iY,fV,fW,fX,fY,fZ,ga,gb,gf,gg,gh,gi,gj,gm,aa,.bool (decide (x.path=hp) || z3o x.kind),bA,bB,bD,bE,bF,bG,bH,bI,bJ,bK,bL,bM,bN,bO,bP,bQ,bT,bU,bV,bW,bX,bY,bZ,ca,cj],[]⟩ w'):
  (Code.region 23 ops true).wp Tryz.prog Q ⟨#[u0,.slice (some ⟨g,0,none⟩) n c,u2,u3,u4,u5,u6,u7,u8,u9,gn,gt,gu,.pointer (some ⟨g13,0,none⟩),gy,.int .i64 i,gA,gC,gD,gE,gF,gG,gH,gI,gJ,gK,gL,gM,gN,gO,gP,gQ,gR,gT,gV,gW,gX,gY,gZ,i6,i7,i8,ia,ib,ic,ie,ig,ii,ij,ik,il,im,io,ip,iq,ir,iu,iv,iw,ix,iy,iz,iA,iB,iC,iD,iE,iF,iG,iH,iI,iJ,iK,iL,iM,iN,iO,iP,iQ,iR,iS,iT,iU,iV,iW,iX,iY,iZ,j0,j1,j2,j5,j6,j7,j8,j9,jb,jd,je,jf,bw,bz,bA,bB,bD,bE,bF,bG,bH,bI,bJ,bK,bL,bM,bN,bO,bP,bQ,bT,bU,bV,bW,bX,bY,bZ,ca,cj],[]⟩ V1:=by
 simp only[Tryz.f38,Option.bind_some,zci] at hops
 simp at hops
 subst hops;have HQ:=hd_ hQ;have HST:=hd_ (fun X=>z3u x X);have cC:∀ d os,Calls Tryz.prog 62 #[.agg #[.int .i64 x.kind,.string x.path,.int .i64 x.num,.string x.frm,.string x.dst]] (grow (redrawn V1 d) os) fun e w''=>e=.returned (.bool (z3o x.kind))∧∃ p:Regrown,w''=grow (redrawn V1 p.d) p.os:=fun d os=>Calls.regrown_of (HST.out _);obtain⟨s0,s1,s2,s3,s4⟩:=hx;have e0:=cell_regrown s0;have e1:=cell_regrown s1;have e2:=cell_regrown s2;have e3:=cell_regrown s3;have e4:=cell_regrown s4;have b0:=cell_regrown hh;clear s0 s1 s2 s3 s4 hh hQ;generalize z3o x.kind=b at cC HQ;by_cases h1:x.path=hp
 ·have q1:(x.path.toList == hp.toList)=true:=by rw[z3x,decide_eq_true h1]
  rw[decide_eq_true h1,Bool.true_or] at HQ;clear h1;refine wp_region_quiet_below (by kernel_rfl) (by kernel_rfl) ?_
  repeat (first | go_big_quiet_step (exact cC _ _) | quiet_step (exact cC _ _))
  refine wpQuiet_nil ?_;intro _ hw9;obtain⟨⟨dq,osq⟩,hw9⟩:=hw9;subst hw9;exact HQ.out _ _ _ _ _ _ _ _ _ _ _ _ _ _ _ (below_regrown V1 dq osq)
 ·have q1:(x.path.toList == hp.toList)=false:=by rw[z3x,decide_eq_false h1]
  rw[decide_eq_false h1,Bool.false_or] at HQ;clear h1;refine wp_region_quiet_below (by kernel_rfl) (by kernel_rfl) ?_
  repeat (first | go_big_quiet_step (exact cC _ _) | quiet_step (exact cC _ _))
  refine wpQuiet_nil ?_;intro _ hw9;obtain⟨⟨dq,osq⟩,hw9⟩:=hw9;subst hw9;exact HQ.out _ _ _ _ _ _ _ _ _ _ _ _ _ _ _ (below_regrown V1 dq osq)
structure Bk3 (X wr:World)(B B2:Nat)(Ap:Option Addr)(c bC:Nat)(pl:List Syn)(b:ByteArray→Bool)(QH:List Hav)(qv:Value):Prop where
 own:zjv wr B (.slice Ap pl.length c) (zeg b pl)
 com:zkp wr X.heap.size B2 bC (zkq pl pl.length)
 low:Below B X wr
 que:zk1 wr B2 44 3 qv QH.length (QH.flatMap Hav.cells)
 b2:B2≤wr.heap.size
theorem zl2 (b:ByteArray→Bool)(pl:List Syn):(zeg b pl).length=pl.length:=List.length_map _
section
variable {X wr wx : World} {B B2 g c bC : Nat} {Ap : Option Addr} {pl : List Syn} {b : ByteArray → Bool} {QH : List Hav} {qv : Value}
theorem Bk3.under (h:Bk3 X wr B B2 Ap c bC pl b QH qv)(hb:Below wr.heap.size wr wx)(hB:B≤B2):Bk3 X wx B B2 Ap c bC pl b QH qv:=
 ⟨z0n h.own hb,h.com.keep fun x hx _=>hb.block x (Nat.lt_of_lt_of_le hx h.b2),h.low.trans (hb.mono (Nat.le_trans hB h.b2)),h.que.below hb,Nat.le_trans h.b2 hb.size⟩
theorem Bk3.pop {x:Hav}{ad:Addr}{cq:Nat}(h:Bk3 X wr B B2 Ap c bC pl b (x :: QH) (.slice (some ad) (QH.length+1) cq)):Bk3 X wr B B2 Ap c bC pl b QH (.slice (if cq=1 then some ad else some ⟨ad.block,ad.off+3,none⟩) QH.length (cq - 1)):=by
 have hq:zk1 wr B2 44 3 (.slice (some ad) (QH.length+1) cq) (QH.length+1) ((x :: QH).flatMap Hav.cells):=h.que;have ht:=hq.tail;have hd:((x :: QH).flatMap Hav.cells).drop 3=QH.flatMap Hav.cells:=by rw[List.flatMap_cons];rfl
 rw[hd] at ht;exact⟨h.own,h.com,h.low,ht,h.b2⟩
theorem Bk3.mark_ (h:Bk3 X wr B B2 (some ⟨g,0,none⟩) c bC pl b QH qv)(hs:z6c pl){k:Nat}(hk:k<pl.length)(hg:g<X.heap.size)(hB:B≤g)(hX:X.heap.size≤B2)(hC:X.heap.size≤bC):
  Bk3 X (wr.setCell ⟨g,k * 5,none⟩ (.int .i64 5)) B B2 (some ⟨g,0,none⟩) c bC pl (setB b pl[k].path) QH qv:=by
 have hk2:k<(zeg b pl).length:=by rw[zl2];exact hk
 have ho:=zjv.put h.own hk2 5;rw[zkx hs b hk hk2] at ho;refine⟨ho,h.com.keep fun x _ hx=>Below.heap_setCell wr ⟨g,k * 5,none⟩ _ x ?_,h.low.setCell hB _,h.que.setCell (p:=⟨g,k * 5,none⟩) (fun e=>by have h2:=(h.que.lt g e).1;omega) _,by simpa [World.setCell] using h.b2⟩
 show x≠g
 rcases hx with hx | hx
 ·omega
 ·omega
theorem Bk3.push {y:Hav}{A':Option Addr}{c':Nat}(h:Bk3 X wr B B2 Ap c bC pl b QH qv)(hB:B≤B2)(hg:∀ x,(Value.slice Ap pl.length c).ownBlock=some x→x<B2)(hq:zk1 wx B2 44 3 (.slice A' (QH.length+1) c') (QH.length+1) (QH.flatMap Hav.cells++y.cells))(hs:zl1 wr wx qv):
  Bk3 X wx B B2 Ap c bC pl b (QH++[y]) (.slice A' (QH.length+1) c'):=by
 have hlt:=h.que.lt;refine⟨?_,h.com.keep fun x hx _=>hs.block (Nat.lt_of_lt_of_le hx h.b2) (fun e=>by have:=(hlt x e).1;omega),hs.low h.low (Nat.le_trans hB h.b2) (fun k e=>Nat.le_trans hB (hlt k e).1),?_,Nat.le_trans h.b2 hs.size⟩
 ·refine⟨h.own.1,?_⟩;rcases h.own.2 with e | ⟨g',cap,cur,e1,h1,h2,h3⟩
  ·exact .inl e
  ·refine .inr ⟨g',cap,cur,e1,h1,(hs.block (Array.getElem?_eq_some_iff.1 h2).1 (fun e=>?_)).trans h2,h3⟩;have h5:=(hlt g' e).1;have h6:=hg g' (by rw[e1];rfl)
   omega
 ·rw[List.length_append,List.flatMap_append];have e:[y].flatMap Hav.cells=y.cells:=by simp
  rw[e];exact hq
end
end
def flH (h:Hav):Fl:=(h.path,h.loc)
def prF (pl:List Syn)(L:List Nat)(k:Nat):List Syn:=(L.take k).filterMap fun i=>pl[i]?
theorem zl3 {pl:List Syn}{L:List Nat}{k i:Nat}(hk:k<L.length)(hi:i<pl.length)(e:L[k]=i):prF pl L (k+1)=prF pl L k++[pl[i]]:=by
 unfold prF;rw[List.take_succ_eq_append_getElem hk,List.filterMap_append,e];simp [List.getElem?_eq_getElem hi]
structure Bk4 (X wr:World)(B B2:Nat)(Ap:Option Addr)(c bC:Nat)(hs:List Hav)(pl:List Syn)(N:Nat)(b:ByteArray→Bool)(QH:List Hav)(qv:Value):Prop where
 mem:Bk3 X wr B B2 Ap c bC pl b QH qv
 st:BkSt hs pl b (QH.map flH)
 num:QH.length+zki b pl≤N
structure Bk5 (X wr:World)(B B2:Nat)(Ap:Option Addr)(c bC g13:Nat)(hs:List Hav)(pl:List Syn)(N:Nat)(b:ByteArray→Bool)(QH:List Hav)(qv:Value)(h:Hav)(Ar:Option Addr)(mr k:Nat):Prop where
 mem:Bk3 X wr B B2 Ap c bC pl b QH qv
 st:BkIn hs pl b (QH.map flH) h.path h.loc (prF pl (zkq pl pl.length h.loc) k)
 num:QH.length+zki b pl≤N
 box:Blk wr g13 44 [.string h.path,.int .i64 h.num,.string h.loc]
 far:B2≤g13
 row:wr.ownsRow X.heap.size 3 1 (.slice Ar (zkq pl pl.length h.loc).length mr) (zkq pl pl.length h.loc).length (zkl (zkq pl pl.length h.loc))
 rup:∀ x,(Value.slice Ar (zkq pl pl.length h.loc).length mr).ownBlock=some x→x<B2∧X.heap.size≤x
 qne:qv.ownBlock≠some g13
section
variable {X wr wx : World} {B B2 g c bC g13 N k i mr : Nat} {Ap : Option Addr} {hs : List Hav} {pl : List Syn} {b : ByteArray → Bool} {QH : List Hav} {qv : Value} {h : Hav} {Ar : Option Addr}
theorem Bk5.under (H:Bk5 X wr B B2 Ap c bC g13 hs pl N b QH qv h Ar mr k)(hb:Below wr.heap.size wr wx)(hB:B≤B2):Bk5 X wx B B2 Ap c bC g13 hs pl N b QH qv h Ar mr k:=⟨H.mem.under hb hB,H.st,H.num,H.box.below hb H.box.lt,H.far,z0n H.row hb,H.rup,H.qne⟩
theorem Bk5.at_ (H:Bk5 X wr B B2 Ap c bC g13 hs pl N b QH qv h Ar mr k)(hk:k<(zkq pl pl.length h.loc).length):∃ ad,Ar=some ad∧ad.block<wr.heap.size∧wr.cell? (ad.add k)=some (.int .i64 ((zkq pl pl.length h.loc)[k]:Nat)):=by
 obtain⟨A',m',e,-,-,-,-,hx⟩:=Row.of_own H.row;injection e with e1 e2 e3
 obtain⟨ad,e4,hb,hc⟩:=hx (by omega)
 refine⟨ad,by rw[e1,e4],hb,hc k _ ?_⟩
 unfold zkl;rw[List.getElem?_map,List.getElem?_eq_getElem hk];rfl
theorem Bk3.at3 (H:Bk3 X wr B B2 (some ⟨g,0,none⟩) c bC pl b QH qv)(hi:i<pl.length):z50 wr ⟨g,i * 5,none⟩ (zef b pl[i])∧wr.frozen? ⟨g,i * 5,none⟩=false:=by
 have hk2:i<(zeg b pl).length:=by rw[zl2];exact hi
 have e:(zeg b pl)[i]=zef b pl[i]:=by
  show (pl.map (zef b))[i]'(by rw[List.length_map];exact hi)=_
  rw[List.getElem_map]
 have:=zjv.cell H.own hk2;rw[e] at this;exact this
theorem Bk5.skip (H:Bk5 X wr B B2 Ap c bC g13 hs pl N b QH qv h Ar mr k)(hk:k<(zkq pl pl.length h.loc).length)(hi:i<pl.length)(e:(zkq pl pl.length h.loc)[k]=i)(hx:pl[i].path=h.path∨z3o pl[i].kind=true∨b pl[i].path=true):
  Bk5 X wr B B2 Ap c bC g13 hs pl N b QH qv h Ar mr (k+1):=⟨H.mem,by rw[zl3 hk hi e];exact bk_skip H.st hx,H.num,H.box,H.far,H.row,H.rup,H.qne⟩
theorem com_at (hk:k<(zkq pl pl.length h.loc).length):∃ i,∃ hi:i<pl.length,(zkq pl pl.length h.loc)[k]=i∧pl[i].dst=h.loc∧pl[i].dst≠z2l:=by
 obtain⟨h1,x,h2,h3,h4⟩:=comF_lt (List.getElem_mem hk);refine⟨_,h1,rfl,?_⟩;rw[List.getElem?_eq_getElem h1] at h2;injection h2 with h2
 rw[h2];exact⟨h3,h4⟩
theorem Bk5.set_ (H:Bk5 X wr B B2 Ap c bC g13 hs pl N b QH qv h Ar mr k)(hg:g<X.heap.size)(hX2:X.heap.size≤B2)(u:Value):Blk (wr.setCell ⟨g,i * 5,none⟩ u) g13 44 [.string h.path,.int .i64 h.num,.string h.loc]∧(wr.setCell ⟨g,i * 5,none⟩ u).ownsRow X.heap.size 3 1 (.slice Ar (zkq pl pl.length h.loc).length mr) (zkq pl pl.length h.loc).length (zkl (zkq pl pl.length h.loc)):=
 ⟨Blk.far H.box (by show g≠g13;have:=H.far;omega) u,z4r H.row (p:=⟨g,i * 5,none⟩) (fun e=>by have:=(H.rup g e).2;omega) u⟩
theorem Bk5.markN (H:Bk5 X wr B B2 (some ⟨g,0,none⟩) c bC g13 hs pl N b QH qv h Ar mr k)(hOk:zf0 hs)(hsrt:z6c pl)(hfrm:∀ x∈pl,x.frm=zk4 hs x.path)(hB:B≤g)(hg:g<X.heap.size)(hX2:X.heap.size≤B2)(hC:X.heap.size≤bC)
  (hk:k<(zkq pl pl.length h.loc).length) (hi:i<pl.length) (e:(zkq pl pl.length h.loc)[k]=i) (hl:pl[i].dst=h.loc) (hd:pl[i].dst≠z2l) (hp:pl[i].path≠h.path) (hst:z3o pl[i].kind=false) (hb:b pl[i].path=false) (hf:pl[i].frm=z2l):
  Bk5 X (wr.setCell ⟨g,i * 5,none⟩ (.int .i64 5)) B B2 (some ⟨g,0,none⟩) c bC g13 hs pl N (setB b pl[i].path) QH qv h Ar mr (k+1)∧QH.length+zki (setB b pl[i].path) pl≤QH.length+zki b pl:=by
 have hm:=zkh hsrt hOk hfrm H.st (List.getElem_mem hi) hp hst hd hl;rw[if_pos hf,← zl3 hk hi e] at hm;have hn:=zkj (List.getElem_mem hi) hst hb;have hnum:=H.num;exact⟨⟨H.mem.mark_ hsrt hi hg hB hX2 hC,hm,by omega,(H.set_ hg hX2 _).1,H.far,(H.set_ hg hX2 _).2,H.rup,H.qne⟩,by omega⟩
theorem Bk5.markY {A':Option Addr}{c':Nat}(H:Bk5 X wr B B2 (some ⟨g,0,none⟩) c bC g13 hs pl N b QH qv h Ar mr k)(hOk:zf0 hs)(hsrt:z6c pl)(hfrm:∀ x∈pl,x.frm=zk4 hs x.path)(hB:B≤g)(hg:g<X.heap.size)(hX2:X.heap.size≤B2)(hC:X.heap.size≤bC)
  (hk:k<(zkq pl pl.length h.loc).length) (hi:i<pl.length) (e:(zkq pl pl.length h.loc)[k]=i) (hl:pl[i].dst=h.loc) (hd:pl[i].dst≠z2l) (hp:pl[i].path≠h.path) (hst:z3o pl[i].kind=false) (hb:b pl[i].path=false) (hf:¬ pl[i].frm=z2l)
  (hq:zk1 wx B2 44 3 (.slice A' (QH.length+1) c') (QH.length+1) (QH.flatMap Hav.cells++[.string pl[i].path,.int .i64 0,.string pl[i].frm])) (hs2:zl1 (wr.setCell ⟨g,i * 5,none⟩ (.int .i64 5)) wx qv) (hob:(Value.slice A' (QH.length+1) c').ownBlock=qv.ownBlock∨∃ x,(Value.slice A' (QH.length+1) c').ownBlock=some x∧(wr.setCell ⟨g,i * 5,none⟩ (.int .i64 5)).heap.size≤x):
  Bk5 X wx B B2 (some ⟨g,0,none⟩) c bC g13 hs pl N (setB b pl[i].path) (QH++[⟨pl[i].path,0,pl[i].frm⟩]) (.slice A' (QH.length+1) c') h Ar mr (k+1)∧(QH.length+1)+zki (setB b pl[i].path) pl≤QH.length+zki b pl:=by
 have hm:=zkh hsrt hOk hfrm H.st (List.getElem_mem hi) hp hst hd hl;rw[if_neg hf,← zl3 hk hi e] at hm;have hn:=zkj (List.getElem_mem hi) hst hb;have hnum:=H.num;have hm3:=H.mem.mark_ hsrt hi hg hB hX2 hC;obtain⟨b1,b2⟩:=H.set_ (i:=i) hg hX2 (.int .i64 5);have hlt:=H.mem.que.lt;refine⟨⟨hm3.push (y:=⟨pl[i].path,0,pl[i].frm⟩) (by omega) (fun x e=>by injection e with e;have e':g=x:=e;omega) hq hs2,?_,by rw[List.length_append];simp;omega,?_,H.far,?_,H.rup,?_⟩,by omega⟩
 ·rw[List.map_append];exact hm
 ·exact (hs2.block b1.lt H.qne).trans b1
 ·refine⟨b2.1,?_⟩;rcases b2.2 with e4 | ⟨g',cap,cur,e1,h1,h2,h3⟩
  ·exact .inl e4
  ·refine .inr ⟨g',cap,cur,e1,h1,(hs2.block (Array.getElem?_eq_some_iff.1 h2).1 (fun e2=>?_)).trans h2,h3⟩;have a1:=(hlt g' e2).1;have a2:=(H.rup g' (by rw[e1];rfl)).1
   omega
 ·rcases hob with e5 | ⟨x,e5,h5⟩
  ·rw[e5];exact H.qne
  ·rw[e5];intro e6;injection e6 with e6;have:=b1.lt;omega
end
theorem bkT17 (T:Code)(hT:Tryz.f38.body.bind (zhv 17)=some T)(R:Ending→World→Prop)(X w:World)(B B2 g c bC N:Nat)(Ap:Option Addr)(hs:List Hav)(pl:List Syn)(hAp:0<pl.length→Ap=some ⟨g,0,none⟩)(QH:List Hav)(Aq:Option Addr)(cq:Nat)
  (hI:Bk4 X w B B2 Ap c bC hs pl N (fun _=>false) QH (.slice Aq QH.length cq)) (hOk:zf0 hs) (hsrt:z6c pl) (hfrm:∀ x∈pl,x.frm=zk4 hs x.path)
  (hB:B≤g) (hg:g<X.heap.size) (hX2:X.heap.size≤B2) (hC:X.heap.size≤bC) (hn:pl.length≤1000000) (hN:N≤1000000)
  (hR:∀ w',zjv w' B (.slice Ap pl.length c) (zeg (blB hs pl) pl)→Below B X w'→R (.returned (.tuple #[])) w')
  (u0 u2 u3 u4 u6 u7 u9 gn gt gu gx gy gz gA gC gD gE gF gG gH gI gJ gK gL gM gN gO gP gQ gR gT gV gW gX gY gZ i6 i7 i8 ia ib ic ie ig ii ij ik il im io ip iq ir iu iv iw ix iy iz iA iB iC iD iE iF iG iH iI iJ iK iL iM iN iO iP iQ iR iS iT iU iV iW iX iY iZ j0 j1 j2 j5 j6 j7 j8 j9 jb jd je jf bw bz bA bB bD bE bF bG bH bI bJ bK bL bM bN bO bP bQ bT bU bV bW bX bY bZ ca cj:Value):
  T.wp Tryz.prog (bodyPost Tryz.prog Tryz.f38 R) ⟨#[u0,.slice Ap pl.length c,u2,u3,u4,.map (some bC),u6,u7,.slice Aq QH.length cq,u9,gn,gt,gu,gx,gy,gz,gA,gC,gD,gE,gF,gG,gH,gI,gJ,gK,gL,gM,gN,gO,gP,gQ,gR,gT,gV,gW,gX,gY,gZ,i6,i7,i8,ia,ib,ic,ie,ig,ii,ij,ik,il,im,io,ip,iq,ir,iu,iv,iw,ix,iy,iz,iA,iB,iC,iD,iE,iF,iG,iH,iI,iJ,iK,iL,iM,iN,iO,iP,iQ,iR,iS,iT,iU,iV,iW,iX,iY,iZ,j0,j1,j2,j5,j6,j7,j8,j9,jb,jd,je,jf,bw,bz,bA,bB,bD,bE,bF,bG,bH,bI,bJ,bK,bL,bM,bN,bO,bP,bQ,bT,bU,bV,bW,bX,bY,bZ,ca,cj],[]⟩ w:=by
 simp only[Tryz.f38,Option.bind_some,zhv,zhu] at hT
 simp at hT
 subst hT;have HI:=hd_ hI;have HOK:=hd_ hOk;have HSRT:=hd_ hsrt;have HFRM:=hd_ hfrm;have HR:=hd_ hR;have hBB:B≤B2:=by omega
 clear hI hOk hsrt hfrm hR;go_wp2_with fail;go_loopg [8] (N+1) (fun gk q wr=>∃(b:ByteArray→Bool) (QH:List Hav) (A:Option Addr) (cq:Nat),q=.slice A QH.length cq∧QH.length+zki b pl<gk∧Hid (Bk4 X wr B B2 Ap c bC hs pl N b QH q))
 case atStart=>exact⟨fun _=>false,QH,Aq,cq,rfl,by have:=HI.out.num;omega,HI⟩
 case round =>
  clear HI;obtain⟨b,QH,A,cq,rfl,hgk,HS⟩:=hrel;cases QH with
  | nil =>
   have HF:=hd_ (HR.out wr (by rw[← bk_over (by have:=HS.out.st;exact this)];exact HS.out.mem.own) HS.out.mem.low)
   clear HS;go_wp2_with fail;go_end0
   exact HF.out
  | cons h Q' =>
   have hqq:zk1 wr B2 44 3 (.slice A (Q'.length+1) cq) (Q'.length+1) ((h :: Q').flatMap Hav.cells):=HS.out.mem.que;have hrow:z4b wr (.slice A (Q'.length+1) cq) (h :: Q'):=hqq.row;obtain⟨-,ad,rfl,hab,s0,s1,s2⟩:=hrow.head;have hA:Below wr.heap.size wr (wr.alloc (.cells #[.string h.path,.int .i64 h.num,.string h.loc] 44)):=(Below.refl _ _).alloc (Nat.le_refl _) _;obtain⟨Ar,mr,hlk,hrw,hru,-⟩:=(HS.out.mem.com.keep (fun x hx _=>hA.block x (Nat.lt_of_lt_of_le hx HS.out.mem.b2))).look h.loc;have hpop:Bk3 X wr B B2 Ap c bC pl b (h :: Q') (.slice (some ad) (Q'.length+1) cq):=HS.out.mem;have hqlt:=hqq.lt;have HS5:Hid (Bk5 X (wr.alloc (.cells #[.string h.path,.int .i64 h.num,.string h.loc] 44)) B B2 Ap c bC wr.heap.size hs pl N b Q' (.slice (if cq=1 then some ad else some ⟨ad.block,ad.off+3,none⟩) Q'.length (cq - 1)) h Ar mr 0):=hd_
    ⟨(hpop.pop).under hA hBB,by have:=HS.out.st;rw[List.map_cons] at this;exact bk_pop this,by have:=HS.out.num;rw[List.length_cons] at this;omega,z0l wr _ _,HS.out.mem.b2,hrw,hru,by
     intro e;have hlt:ad.block<wr.heap.size:=hab;split at e
     ·injection e with e;omega
     ·injection e with e
      have e':ad.block=wr.heap.size:=e;omega⟩
   have hz:(0:Int)<((Q'.length+1:Nat):Int):=by omega
   have hgk2:Q'.length+zki b pl+1<gk:=by rw[List.length_cons] at hgk;omega
   have HLK:=hd_ hlk;clear hA hlk hrw hru hpop hqlt hqq hrow HS hgk;dsimp only [List.length_cons]
   go_upto_region 20 with fail;have hl:=HLK.out _ rfl;generalize (if cq=1 then some ad else some ⟨ad.block,ad.off+3,none⟩)=A1 at HS5 ⊢;generalize cq - 1=c1 at HS5 ⊢;generalize wr.heap.size=g13 at HS5 ⊢;generalize wr.alloc (.cells #[.string h.path,.int .i64 h.num,.string h.loc] 44)=W1 at HS5 hl ⊢;clear HLK hab s0 s1 s2 hz;have d2:W1.cell? ⟨g13,2,none⟩=some (.string h.loc):=HS5.out.box.cell 2;obtain⟨L,hL⟩:∃ L,zkq pl pl.length h.loc=L:=⟨_,rfl⟩;have hLb:L.length≤1000000:=by rw[← hL];exact Nat.le_trans (zks _ _ _) hn
   have HL:=hd_ hL;rw[hL] at hl;clear hL;go_wp2_with fail;clear hl d2;go_loopw [8,83] (fun q i wq=>∃(b:ByteArray→Bool) (QH:List Hav) (A:Option Addr) (cq k:Nat),q=.slice A QH.length cq∧i=.int .i64 k∧k≤L.length∧QH.length+zki b pl+1<gk∧Hid (Bk5 X wq B B2 Ap c bC g13 hs pl N b QH q h Ar mr k)) (fun _ i _=>L.length - (intOf i).toNat)
   case atStart=>exact⟨b,Q',_,_,0,rfl,rfl,Nat.zero_le _,hgk2,HS5⟩
   case round =>
    clear HS5;obtain⟨b,QH,A,cq,k,rfl,rfl,hk,hgk,HJ⟩:=hrel;by_cases hlt:k<L.length
    ·have HLT2:=hd_ hlt;have hlt2:k<(zkq pl pl.length h.loc).length:=by rw[HL.out];exact hlt
     obtain⟨i,hi,hki,hdl,hde⟩:=com_at hlt2;obtain⟨ad2,rfl,hab,sI⟩:=HJ.out.at_ hlt2;rw[hki] at sI;have HKI:Hid (∀ hh:k<(zkq pl pl.length h.loc).length,(zkq pl pl.length h.loc)[k]=i):=hd_ (fun _=>hki);have HLT:=hd_ hlt2;have HDL:=hd_ hdl;have HDE:=hd_ hde;obtain rfl:=hAp (by omega)
     obtain⟨hsy,-⟩:=HJ.out.mem.at3 hi;have HSY:=hd_ hsy;clear hki hlt2 hdl hde hab hsy;go_upto_region 23 with fail;refine bkR23 _ (by kernel_rfl) _ wr g pl.length c i g13 (zef b pl[i]) h.path HSY.out (HJ.out.box.cell 0) hi ?_
     intro fV fW fX fY fZ ga gb gf gg gh gi gj gm aa w2 hb2;have HJ2:=hd_ (HJ.out.under hb2 hBB);have HPA:=hd_ (zeh b pl[i]);have HMS:=hd_ (zej b pl[i]);clear HSY HJ hb2 sI;cases hbb:(decide ((zef b pl[i]).path=h.path) || z3o (zef b pl[i]).kind) with
     | true =>
      have HN:=hd_ (HJ2.out.skip HLT.out hi (HKI.out _) (by
       rcases Bool.or_eq_true_iff.1 hbb with e | e
       ·exact .inl (by rw[← HPA.out];exact of_decide_eq_true e)
       ·rw[HMS.out] at e;rcases Bool.or_eq_true_iff.1 e with e | e
        ·exact .inr (.inr e)
        ·exact .inr (.inl e)))
      clear hbb;go_wp2_with fail;go_roundw
      case rel=>exact⟨b,QH,A,cq,k+1,rfl,by go_num,by have:=HLT2.out;omega,hgk,HN⟩
      case measure=>have:=HLT2.out;simp [intOf];omega
     | false =>
      obtain⟨e1,e2⟩:=(Bool.or_eq_false_iff).1 hbb;have hp:pl[i].path≠h.path:=by
       rw[← HPA.out];exact of_decide_eq_false e1
      rw[HMS.out] at e2;obtain⟨e3,e4⟩:=(Bool.or_eq_false_iff).1 e2;have HP:=hd_ hp;have HE3:=hd_ e3;have HE4:=hd_ e4;have HM3:=hd_ (HJ2.out.mem.mark_ HSRT.out hi hg hB hX2 hC);obtain⟨⟨y0,-,-,-,-⟩,fz⟩:=HJ2.out.mem.at3 hi;clear hbb e1 e2 e3 e4 hp;go_upto_region 25 with fail;clear y0 fz;obtain⟨⟨-,-,-,y3,-⟩,-⟩:=HM3.out.at3 hi;rw[(zei _ _).2.1] at y3;by_cases hf:pl[i].frm=z2l
      ·obtain⟨HN,hnum⟩:=HJ2.out.markN HOK.out HSRT.out HFRM.out hB hg hX2 hC HLT.out hi (HKI.out _) HDL.out HDE.out HP.out HE4.out HE3.out hf;have HN:=hd_ HN;obtain⟨s1,s2⟩:=z3v hf;clear HM3 hf;generalize w2.setCell ⟨g,i * 5,none⟩ (.int .i64 5)=W3 at HN y3 ⊢;generalize setB b pl[i].path=b2 at HN hnum;generalize pl[i].frm=fr at y3 s1 s2;go_wp2_with fail;go_roundw
       case rel=>exact⟨b2,QH,A,cq,k+1,rfl,by go_num,by have:=HLT2.out;omega,by omega,HN⟩
       case measure=>have:=HLT2.out;simp [intOf];omega
      ·have HF:=hd_ hf;obtain⟨s1,s2⟩:=z3w hf;have HY:=hd_ (fun(A':Option Addr) (c':Nat) (wx:World) h1 h2 h3=>HJ2.out.markY (A':=A') (c':=c') (wx:=wx) HOK.out HSRT.out HFRM.out hB hg hX2 hC HLT.out hi (HKI.out _) HDL.out HDE.out HP.out HE4.out HE3.out HF.out h1 h2 h3);have HQL:=hd_ (show QH.length≤1000000 by have:=HJ2.out.num;omega)
       obtain⟨⟨-,y1,-,-,-⟩,-⟩:=HM3.out.at3 hi;rw[zeh] at y1;have HY1:=hd_ y1;have HY3:=hd_ y3;have HI2:=hd_ hi;clear hf y1;generalize w2.setCell ⟨g,i * 5,none⟩ (.int .i64 5)=W3 at HM3 HY HY1 HY3 y3 ⊢;generalize setB b pl[i].path=b2 at HY HM3;generalize pl[i].frm=fr at HY y3 HY3 s1 s2;generalize pl[i].path=pt at HY HY1;go_upto_region 26 with fail;refine bkR26 _ (by kernel_rfl) _ W3 g pl.length c i QH.length cq B2 A (QH.flatMap Hav.cells) pt fr HM3.out.que HY1.out HY3.out HI2.out HM3.out.b2 (by omega) (by have:=HQL.out;omega) ?_
       intro ao ap aq ar au aw ax ay az aA aB aC aD aE A' c' w4 HO;obtain⟨HN,hnum⟩:=HY.out A' c' w4 HO.out.1 HO.out.2.1 HO.out.2.2;have HN:=hd_ HN;clear HY HO HM3;go_wp2_with fail;go_roundw
       case rel=>exact⟨b2,QH++[⟨pt,0,fr⟩],A',c',k+1,by rw[List.length_append];rfl,by go_num,by have:=HLT2.out;omega,by rw[List.length_append];simp;omega,HN⟩
       case measure=>have:=HLT2.out;simp [intOf];omega
    ·have hke:k=L.length:=by omega
     have HF:Hid (Bk4 X wr B B2 Ap c bC hs pl N b QH (.slice A QH.length cq)):=hd_ ⟨HJ.out.mem,bk_end HOK.out HJ.out.st (fun x hx hd hl=>by
      have he:=HL.out;obtain⟨i,hi,hx2⟩:=zkt hx hd;rw[hl] at hi;unfold prF;rw[he,hke,List.take_length,← he];exact List.mem_filterMap.2 ⟨i,hi,hx2⟩),HJ.out.num⟩
     clear HJ hke hk;go_wp2_with fail;go_roundg (QH.length+zki b pl+1)
     case measure=>exact hgk
     case rel=>exact⟨b,QH,A,cq,rfl,by omega,HF⟩
end Go.Proofs.YtegeboijhifmcaaGreatDoor
