/- A part. -/
import Derived.Test.YtlnjaagijaadmaaGreatDoorMvw31
import Derived.Test.YtlnjaagijaadmaaGreatDoorMvw36
import Derived.Test.YtlnjaagijaadmaaGreatDoorMvw35
set_option linter.unusedVariables false
set_option linter.unusedSimpArgs false
set_option maxHeartbeats 8000000
set_option maxRecDepth 100000
namespace Go.Proofs.YtlnjaagijaadmaaGreatDoor
open Go.Proofs.Tryz
open Go.RowKit
theorem zf5 {p:zA}(h:p=knA\/p=knB):z2y p=true/\p.size<=200/\p.size<=140737488355328:=by
 rcases h with rfl | rfl
 ·exact⟨by decide,by decide,by decide⟩
 ·exact⟨by decide,by decide,by decide⟩
theorem knEvery (g bl be bn:Nat)(Ae:zP)(ce:Nat)(w:zW)(hk:Chk w g (zL none 0 0) (zL none 0 0) 1 ⟨#[]⟩ ⟨#[]⟩ (zL Ae 2 ce) (zL none 0 0) bl be bn)(hL:z4x w bl zf4)(hne:bl≠be)(hE:KnE w Ae ce){F:zA->Option Edt}(hM:z4y w be F):
  Calls prog 117 #[.pointer (some ⟨g,0,none⟩)] w fun e w'=>e=.returned (zI 0)/\w.grownBy w' (some be):=by
 obtain⟨-,-,-,k5,-,-,-,-⟩:=z40 hk;have hobj:=z2l.obj hM;have HE:=hd_ hE;have HK:=hd_ hk;have HL:=hd_ hL;have HM:=hd_ hM;clear hE hk hL hM;go_enter func117,ntmps117;go_wp2_with fail;go_loopw [3,13] (fun b i wr=>∃(k:Nat) (b0:zA) (F:zA->Option Edt),i=zI k/\k<=2/\b=zS b0/\b0.size<=200/\Hid ((k=0->b0=z2r)/\(k=1->b0=knA))/\w.grownBy wr (some be)/\z4y wr be F) (fun _ i _=>2 - (intOf i).toNat)
 exact⟨0,z2r,F,rfl,by omega,rfl,by decide,hd_ ⟨fun _=>rfl,fun e=>by cases e⟩,World.grownBy.refl _ _,HM.out⟩
 obtain⟨k,b0,G,rfl,hk,rfl,hb0,HB0,hg,hM⟩:=hrel;have hKr:=Blk.turn HK.out hobj hg;have hLr:=z2l.grown HL.out hg (by intro e;injection e with e;exact hne e)
 have hEr:KnE wr Ae ce:=Row.turn HE (by decide) hobj hg
 by_cases hlt:k<2
 ·obtain⟨ad,p,rfl,hab,⟨x0,x1,x2,x3,x4,x5,x6,x7,x8,x9,x10,x11⟩,hp0,hp1⟩:=hEr.at_ k hlt;have hpp:p=knA\/p=knB:=by
   rcases (by omega:k=0\/k=1) with h | h
   ·exact .inl (hp0 h)
   ·exact .inr (hp1 h)
  obtain⟨hv,h200,hxs⟩:=zf5 hpp;have HST:Hid ((k+1=0->p=z2r)/\(k+1=1->p=knA)):=hd_ ⟨fun e=>by omega,fun e=>hp0 (by omega)⟩
  have hcase:b0=z2r\/(b0≠z2r/\z30 b0 p<0):=by
   rcases (by omega:k=0\/k=1) with h | h
   ·exact .inl (HB0.1 h)
   ·rw[HB0.out.2 h,hp1 h];exact .inr ⟨by decide,by decide⟩
  have hgx:=hg.trans (zew ((Zb wr.heap.size wr).alloc (Zd _) (zC #[zS p,zI 1,zI 1,.bool false,.bool false,.bool false,.int .u64 1,zI 1,zI 0,zS ⟨#[]⟩,zI 0,zI 0] 88)) _);have HVA:=hd_ (fun W=>zey p true hv W hxs);have hX:=z0l wr [zS p,zI 1,zI 1,.bool false,.bool false,.bool false,.int .u64 1,zI 1,zI 0,zS ⟨#[]⟩,zI 0,zI 0] 88;have hKx:=Blk.alloc hKr (zC #[zS p,zI 1,zI 1,.bool false,.bool false,.bool false,.int .u64 1,zI 1,zI 0,zS ⟨#[]⟩,zI 0,zI 0] 88);have hLx:=z2l.alloc hLr (zC #[zS p,zI 1,zI 1,.bool false,.bool false,.bool false,.int .u64 1,zI 1,zI 0,zS ⟨#[]⟩,zI 0,zI 0] 88);have hMx:=z2l.alloc hM (zC #[zS p,zI 1,zI 1,.bool false,.bool false,.bool false,.int .u64 1,zI 1,zI 0,zS ⟨#[]⟩,zI 0,zI 0] 88);have qs:¬(200:Int)<(p.size:Int):=by omega
  have qs':¬ 200<p.size:=by omega
  have q2:decide ((k:Int)<2)=true:=by simp;omega
  have h200':=h200;clear hv hp0 hp1 hpp hKr hLr hEr hM HB0 h200;rcases hcase with hbe | ⟨hbe,hcp⟩
  ·have s1:=zes hbe;clear hbe;go_wp2_with fail;refine (HVA _).mono ?_;rintro e w1 ⟨rfl,rfl⟩;go_upto_region 9 with fail;clear s1 x0 x1 x2 x3 x4 x5 x6 x7 x8 x9 x10 x11;generalize wr.alloc (zC #[zS p,zI 1,zI 1,.bool false,.bool false,.bool false,.int .u64 1,zI 1,zI 0,zS ⟨#[]⟩,zI 0,zI 0] 88)=W1 at hgx hX hKx hLx hMx |-;generalize wr.heap.size=g5 at hX |-;obtain⟨c0,c1,c2,c3,c4,c5,c6,c7,c8,c9,c10,c11⟩:=z57 hX;have HON:=hd_ (knOne p g bl be bn (some ad) ce _ hKx hLx);go_wp2_with fail;refine HON.mono ?_;rintro e w2 ⟨rfl,hb2⟩;have hX2:=hX.kw hb2 hX.lt;have hg2:=hgx.trans (zew hb2 _);have hK2:=Blk.kw hKx hb2 (Blk.lt hKx);have hM2:=z2l.kw hMx hb2;obtain⟨w3,hup,hM3,hg3,hs3⟩:=z2l.update (w:=w2.drew) hM2 z4w underlying183 p (knE p);have hup':(Instr.mapUpdate 183 (.map (some be)) (zS p) (.agg #[zS p,zI 1,zI 1,.bool false,.bool false,.bool false,.int .u64 1,zI 1,zI 0,zS ⟨#[]⟩,zI 0,zI 0])).run prog w2.drew=.ok () w3:=hup;have hX3:=Blk.grown (w:=w2.drew) hX2 hg3 (by intro e;injection e with e;subst e;obtain⟨_,_,ho⟩:=z2l.obj hM2;unfold Blk at hX2;rw[ho] at hX2;cases hX2)
   have hgw3:w.grownBy w3 (some be):=(hg2.trans (zew (Zb _ _).drew _)).trans hg3;obtain⟨-,-,-,-,-,-,k8,-⟩:=z40 hK2;clear c0 c1 c2 c3 c4 c5 c6 c7 c8 c9 c10 c11;obtain⟨c0,c1,c2,c3,c4,c5,c6,c7,c8,c9,c10,c11⟩:=z57 hX2;clear hup;go_wp2_with fail;go_still_tail 7,(by kernel_rfl)
   change wpList _ _ _ _ _ w2.drew;clear c0 c1 c2 c3 c4 c5 c6 c7 c8 c9 c10 c11;obtain⟨c0,c1,c2,c3,c4,c5,c6,c7,c8,c9,c10,c11⟩:=z57 hX3;go_wp2_with fail;go_roundw
   exact⟨k+1,p,_,by go_num,by omega,rfl,by omega,HST,hgw3,hM3⟩
   simp [intOf];omega
  ·have s1:=zet hbe;have s2:=zeu hbe;clear hbe;have HCP:=hd_ (z3s b0 p (wr.alloc (zC #[zS p,zI 1,zI 1,.bool false,.bool false,.bool false,.int .u64 1,zI 1,zI 0,zS ⟨#[]⟩,zI 0,zI 0] 88)) (by omega) hxs)
   have qc:¬ 0<=z30 b0 p:=by omega
   go_wp2_with fail;refine (HVA _).mono ?_;rintro e w1 ⟨rfl,rfl⟩;go_wp2_with fail;refine HCP.mono ?_;rintro e w1 ⟨rfl,hq1⟩;have hb1:=hq1.kw (World.heap (wr.alloc (zC #[zS p,zI 1,zI 1,.bool false,.bool false,.bool false,.int .u64 1,zI 1,zI 0,zS ⟨#[]⟩,zI 0,zI 0] 88))).size;have hX:=hX.kw hb1 hX.lt;have hKx:=Blk.kw hKx hb1 (Blk.lt hKx);have hLx:=z2l.kw hLx hb1;have hMx:=z2l.kw hMx hb1;have hgx:=hgx.trans (zew hb1 _);clear hq1 hb1;go_upto_region 9 with fail;clear s1 s2 qc hcp x0 x1 x2 x3 x4 x5 x6 x7 x8 x9 x10 x11;have W1:=w1;generalize wr.heap.size=g5 at hX |-;obtain⟨c0,c1,c2,c3,c4,c5,c6,c7,c8,c9,c10,c11⟩:=z57 hX;have HON:=hd_ (knOne p g bl be bn (some ad) ce _ hKx hLx);go_wp2_with fail;refine HON.mono ?_;rintro e w2 ⟨rfl,hb2⟩;have hX2:=hX.kw hb2 hX.lt;have hg2:=hgx.trans (zew hb2 _);have hK2:=Blk.kw hKx hb2 (Blk.lt hKx);have hM2:=z2l.kw hMx hb2;obtain⟨w3,hup,hM3,hg3,hs3⟩:=z2l.update (w:=w2.drew) hM2 z4w underlying183 p (knE p);have hup':(Instr.mapUpdate 183 (.map (some be)) (zS p) (.agg #[zS p,zI 1,zI 1,.bool false,.bool false,.bool false,.int .u64 1,zI 1,zI 0,zS ⟨#[]⟩,zI 0,zI 0])).run prog w2.drew=.ok () w3:=hup;have hX3:=Blk.grown (w:=w2.drew) hX2 hg3 (by intro e;injection e with e;subst e;obtain⟨_,_,ho⟩:=z2l.obj hM2;unfold Blk at hX2;rw[ho] at hX2;cases hX2)
   have hgw3:w.grownBy w3 (some be):=(hg2.trans (zew (Zb _ _).drew _)).trans hg3;obtain⟨-,-,-,-,-,-,k8,-⟩:=z40 hK2;clear c0 c1 c2 c3 c4 c5 c6 c7 c8 c9 c10 c11;obtain⟨c0,c1,c2,c3,c4,c5,c6,c7,c8,c9,c10,c11⟩:=z57 hX2;clear hup;go_wp2_with fail;go_still_tail 7,(by kernel_rfl)
   change wpList _ _ _ _ _ w2.drew;clear c0 c1 c2 c3 c4 c5 c6 c7 c8 c9 c10 c11;obtain⟨c0,c1,c2,c3,c4,c5,c6,c7,c8,c9,c10,c11⟩:=z57 hX3;go_wp2_with fail;go_roundw
   exact⟨k+1,p,_,by go_num,by omega,rfl,by omega,HST,hgw3,hM3⟩
   simp [intOf];omega
 ·have q2:decide ((k:Int)<2)=false:=by simp;omega
  go_wp2_with fail;go_ret;exact⟨rfl,hg⟩
theorem knGrow (w:zW):Calls prog 121 #[zL none 0 0,zI 0] w fun e w'=>e=.returned (zL none 0 0)/\w=w':=by
 go_enter func121,ntmps121;go_wp2_with fail;go_ret;exact⟨rfl,rfl⟩
theorem zh0 (g:Nat)(w:zW)(hB:Blk w g 25 [zL none 0 0,zL none 0 0]):Calls prog 65 #[zL (some ⟨g,0,none⟩) 2 2] w fun e w'=>∃ A c,e=.returned (zL A 0 c)/\zB w w':=by
 have b0:w.cell? ⟨g,0,none⟩=some (.slice none 0 0):=hB.cell 0;have b1:w.cell? ⟨g,1,none⟩=some (.slice none 0 0):=hB.cell 1;have HB:=hd_ hB;have HG:=hd_ (knGrow w);clear hB;go_enter func65,ntmps65;go_wp2_with fail;refine wp_loop_rounds 3 ?_;rw[rounds_succ];go_wp2_with fail;rw[rounds_succ];go_wp2_with fail;rw[rounds_succ];go_wp2_with fail;refine HG.mono ?_;rintro e w1 ⟨rfl,rfl⟩;go_wp2_with fail;refine wp_loop_rounds 3 ?_;rw[rounds_succ];go_wp2_with (at_builtin;refine z0j (base:=w.heap.size) (n:=0) (xs:=[]) (m:=0) (news:=[]) rfl rfl zfe (Zv _ _ _ _) rfl (z3y.nil_ w) rfl (fun u h=>by cases h) (by omega) (by unfold maxLen;omega) (Zd _) ?_;intro A' c' w2 hO2 hG2 hw2)
 have HO2:=hd_ hO2;have HB2:=hd_ (zgw hG2 rfl);have b1:w2.cell? ⟨g,1,none⟩=some (.slice none 0 0):=(HB.kw HB2 HB.lt).cell 1;clear hO2 hG2 hw2 b0;rw[rounds_succ];go_wp2_with (at_builtin;refine z0j (base:=w.heap.size) (m:=0) (news:=[]) rfl rfl zfe HO2 rfl (z3y.nil_ w2) rfl (fun u h=>by cases h) (by omega) (by unfold maxLen;omega) HB2.size ?_;intro A3 c3 w3 hO3 hG3 hw3)
 have HB3:Hid (zB w w3):=hd_ (HB2.grown hG3 HB2.size (fun k e=>(HO2.lt k e).1));clear hO3 hG3 hw3;rw[rounds_succ];go_wp2_with fail;go_ret;exact⟨_,_,rfl,HB3⟩
theorem knSort (A:zP)(c:Nat)(cv:zV)(w:zW):Calls prog 67 #[zL A 0 c,cv] w fun e w'=>e=.returned (.tuple #[])/\w=w':=by
 have H:=hd_ (z6z (zL A 0 c) cv w);go_enter func67,ntmps67;go_wp2_with fail;refine H.mono ?_;rintro e w' ⟨rfl,rfl⟩;go_wp2_with fail;go_end0
 exact⟨rfl,rfl⟩
theorem knClone (w:zW):Calls prog 64 #[zL none 0 0] w fun e w'=>e=.returned (zL none 0 0)/\w=w':=by
 go_enter func64,ntmps64;have heq:∀ W,(binOp .eql 24 (zL none 0 0) (zL none 0 0)).run prog W=.ok (.bool true) W:=fun W=>by kernel_rfl
 go_wp2_with fail;go_ret;exact⟨rfl,rfl⟩
structure KnW (w X:zW)(g bl be bn:Nat)(Ae:zP)(ce:Nat):Prop where
 bel:zB w X
 chk:Chk X g (zL none 0 0) (zL none 0 0) 1 ⟨#[]⟩ ⟨#[]⟩ (zL Ae 2 ce) (zL none 0 0) bl be bn
 last:z4x X bl zf4
 edt:∃ F,z4y X be F
 ne:bl≠be
 le:w.heap.size<=be
theorem knNew (Ae:zP)(ce:Nat)(w:zW):Calls prog 62 #[.agg #[zL none 0 0,zL none 0 0],.agg #[zI 1,zS ⟨#[]⟩,zS ⟨#[]⟩,zL Ae 2 ce,zL none 0 0]] w fun e w'=>∃ g bl be bn,e=.returned (.pointer (some ⟨g,0,none⟩))/\KnW w w' g bl be bn Ae ce:=by
 have hmm:=@run_makeMap prog;go_enter func62,ntmps62;go_wp2_with fail;refine wp_loop_rounds 1 ?_;rw[rounds_succ];go_wp2_with fail;go_ret;refine⟨w.heap.size+1+1+1+1+1,w.heap.size+1+1,w.heap.size+1+1+1,w.heap.size+1+1+1+1,rfl,(((((zR).alloc (by simp) _).alloc (by simp;omega) _).alloc (by simp;omega) _).alloc (by simp;omega) _).alloc (by simp;omega) _,?_,?_,⟨fun _=>none,?_⟩,?_,?_⟩
 case refine_1=>
  have:=z0l (((((w.alloc (zC #[zL none 0 0,zL none 0 0] 27)).alloc (zC #[zI 1,zS ⟨#[]⟩,zS ⟨#[]⟩,zL Ae 2 ce,zL none 0 0] 93)).alloc (.map #[] 0)).alloc (.map #[] 0)).alloc (.map #[] 0)) [zL none 0 0,zL none 0 0,zI 1,zS ⟨#[]⟩,zS ⟨#[]⟩,zL Ae 2 ce,zL none 0 0,.map (some (w.heap.size+1+1)),.map (some (w.heap.size+1+1+1)),.map (some (w.heap.size+1+1+1+1))] 186;simp only[Zl] at this
  exact this
 case refine_2 =>
  have:=z2l.new zS Rev.val ((w.alloc (zC #[zL none 0 0,zL none 0 0] 27)).alloc (zC #[zI 1,zS ⟨#[]⟩,zS ⟨#[]⟩,zL Ae 2 ce,zL none 0 0] 93));simp only[Zl] at this
  exact z2l.alloc (z2l.alloc (z2l.alloc this _) _) _
 case refine_3 =>
  have:=z2l.new zS Edt.val (((w.alloc (zC #[zL none 0 0,zL none 0 0] 27)).alloc (zC #[zI 1,zS ⟨#[]⟩,zS ⟨#[]⟩,zL Ae 2 ce,zL none 0 0] 93)).alloc (.map #[] 0));simp only[Zl] at this
  exact z2l.alloc (z2l.alloc this _) _
 case refine_4=>omega
 case refine_5=>omega
theorem knSteps (g:Nat)(w:zW):Calls prog 63 #[.pointer (some ⟨g,0,none⟩)] w fun e w'=>e=.returned (zL (some ⟨w.heap.size,0,none⟩) 5 5)/\zB w w'/\Blk w' w.heap.size 136 [.func (.func 116) #[.pointer (some ⟨g,0,none⟩)] #[],.func (.func 117) #[.pointer (some ⟨g,0,none⟩)] #[],.func (.func 118) #[.pointer (some ⟨g,0,none⟩)] #[],.func (.func 119) #[.pointer (some ⟨g,0,none⟩)] #[],.func (.func 120) #[.pointer (some ⟨g,0,none⟩)] #[]]:=by
 go_enter func63,ntmps63;go_wp2_with fail;go_ret;exact⟨rfl,zR,z0l w _ _⟩
theorem zh1 (p:zA)(g bl be bn:Nat)(Ae:zP)(ce:Nat)(w:zW)(hk:Chk w g (zL none 0 0) (zL none 0 0) 1 ⟨#[]⟩ ⟨#[]⟩ (zL Ae 2 ce) (zL none 0 0) bl be bn)(hL:z4x w bl zf4):Calls prog 66 #[.pointer (some ⟨g,0,none⟩),.agg #[zS p,zI 1,zI 1,.bool false,.bool false,.bool false,.int .u64 1,zI 1,zI 0,zS ⟨#[]⟩,zI 0,zI 0]] w fun e w'=>e=.returned (.agg #[zS p,zI 1,zI 1,zI 1,zI 1,.bool false,.bool false,.bool false,.int .u64 1,zI 1,zS ⟨#[]⟩,zI 0])/\zB w w':=
 zgd zf4 (knE p) g _ _ _ _ 1 _ _ bl be bn w hk hL (Int.le_refl 0) (show (0:Int)<=1000000 by decide)
section
variable {u0 u1 u2 u3 u4 u5 u6 u7 u8 u9 gF gG gH gI gJ gK gL gM gN gO gP gQ gR gT gV gW gX gY gZ i6 i7 i8 ia ib ic ie ig ii ij ik il im io ip iq ir iu iv iw iy iz iA iB iC iD iE iF iG iH iI : zV}
theorem knR13 (ops:Array Oper)(hops:Tryz.f32.body.bind (z0w 13)=some ops)(Q:Exit->Act->zW->Prop)(g g10 ge n:Nat)(p:zA)(v1 v2:zV)(xs:List zV)(V V1:zW)
  (hR:WaR V V1 g10 v1 v2 n xs) (hB:Blk V1 ge 88 [zS p,zI 1,zI 1,.bool false,.bool false,.bool false,.int .u64 1,zI 1,zI 0,zS ⟨#[]⟩,zI 0,zI 0]) (hn:n<=100000)
  (hrev:∀ X,zB V1 X->Calls prog 66 #[.pointer (some ⟨g,0,none⟩),.agg #[zS p,zI 1,zI 1,.bool false,.bool false,.bool false,.int .u64 1,zI 1,zI 0,zS ⟨#[]⟩,zI 0,zI 0]] X fun e w'=>e=.returned (.agg #[zS p,zI 1,zI 1,zI 1,zI 1,.bool false,.bool false,.bool false,.int .u64 1,zI 1,zS ⟨#[]⟩,zI 0])/\zB X w')
  (hQ:∀(fd fe ff fg fh fj fk fm:zV) (v3:zV) (w':zW),Hid (WaR V w' g10 v3 v2 (n+1) (xs++[zS p,zI 1,zI 1,zI 1,zI 1,.bool false,.bool false,.bool false,.int .u64 1,zI 1,zS ⟨#[]⟩,zI 0]))->Q .normal ⟨#[u0,u1,u2,u3,u4,u5,.pointer (some ⟨g,0,none⟩),u7,u8,u9,.pointer (some ⟨g10,0,none⟩),gG,.pointer (some ⟨ge,0,none⟩),gI,gJ,gK,gL,gM,gN,gO,gP,gQ,gR,gT,gV,gW,gX,gY,gZ,i6,i7,i8,ia,ib,ic,ie,ig,ii,ij,ik,il,im,io,ip,iq,ir,iu,fd,fe,ff,fg,fh,fj,fk,fm,iE,iF,iG,iH,iI],[]⟩ w'):
  (Code.region 13 ops true).wp prog Q ⟨#[u0,u1,u2,u3,u4,u5,.pointer (some ⟨g,0,none⟩),u7,u8,u9,.pointer (some ⟨g10,0,none⟩),gG,.pointer (some ⟨ge,0,none⟩),gI,gJ,gK,gL,gM,gN,gO,gP,gQ,gR,gT,gV,gW,gX,gY,gZ,i6,i7,i8,ia,ib,ic,ie,ig,ii,ij,ik,il,im,io,ip,iq,ir,iu,iv,iw,iy,iz,iA,iB,iC,iD,iE,iF,iG,iH,iI],[]⟩ V1:=by
 simp only[Tryz.f32,Zp,z0w] at hops
 simp at hops
 subst hops;obtain⟨A1,c1,hv1⟩:=z0o hR.one;subst hv1;have HQ:=hd_ hQ;have HR:=hd_ hR;have HRV2:=hd_ hrev;have f0:V1.cell? ⟨g10,0,none⟩=some (.slice A1 n c1):=hR.box.cell 0;obtain⟨c0,c1',c2,c3,c4,c5,c6,c7,c8,c9,c10,c11⟩:=z57 hB;clear hQ hR hB hrev;refine wp_region_noPanic ?_;go_region_law (first
  | (refine step_app rfl rfl zfd (z0n (z0n HR.one hS5) (zR)) (by simp [Act.eval,Act.put]) (z0i w5 [zS p,zI 1,zI 1,zI 1,zI 1,.bool false,.bool false,.bool false,.int .u64 1,zI 1,zS ⟨#[]⟩,zI 0] _ 12 1 rfl (by decide) _ rfl) (by simp [Act.eval,Act.put]) (by simp [Value.oneCell']) (by omega) (by unfold maxLen;omega) (by have:=hS5.size;have:=HR.out.bel.size;simp;omega) ?_;intro A6 c6' w6 hO6 hG6 hw6;have hbx:=(HR.out.box.kw (z0r hS5 (zR)) HR.out.box.lt).grown hG6 (fun e=>HR.out.ne1 e.symm);obtain⟨b0,b1,g0,g1⟩:=box2 hbx)
  | (go_simp;go_at_call 66;refine (HRV2 _ (Zb _ _).drew).mono ?_;rintro e w5 ⟨rfl,hX5⟩;have hS5:zB V1 w5:=(Zb _ _).drew.trans hX5;have f5:w5.cell? ⟨g10,0,none⟩=some (.slice A1 n c1):=(HR.box.kw hS5 HR.box.lt).cell 0;have f6:(w5.alloc (zC #[zS p,zI 1,zI 1,zI 1,zI 1,.bool false,.bool false,.bool false,.int .u64 1,zI 1,zS ⟨#[]⟩,zI 0] 78)).cell? ⟨g10,0,none⟩=some (.slice A1 n c1):=(HR.box.kw (hS5.alloc hS5.size _) HR.box.lt).cell 0)
  | fail)
 all_goals exact NoPanic.normal (HQ _ _ _ _ _ _ _ _ _ _ (HR.push (z0r hS5 (zR)) hO6 hG6 hw6))
theorem knR9 (ops:Array Oper)(hops:Tryz.f32.body.bind (z0w 9)=some ops)(Q:Exit->Act->zW->Prop)(gd gc:Nat)(ev:zV)(V:zW)
  (hD:Blk V gd 27 [zL none 0 0,zL none 0 0]) (hC:Blk V gc 93 [zI 1,zS ⟨#[]⟩,zS ⟨#[]⟩,ev,zL none 0 0])
  (hQ:∀(eK eL eM eN eO eP eQ eR eS eT:zV) (g10:Nat) (v2:zV) (w':zW),Hid (WaR V w' g10 (zL none 0 0) v2 0 []/\∃ A c,v2=zL A 0 c)->Q .normal ⟨#[u0,u1,.pointer (some ⟨gd,0,none⟩),.pointer (some ⟨gc,0,none⟩),u4,u5,u6,u7,u8,u9,.pointer (some ⟨g10,0,none⟩),gG,gH,gI,gJ,gK,gL,gM,gN,gO,gP,gQ,gR,gT,gV,gW,gX,gY,gZ,i6,eK,eL,eM,eN,eO,eP,eQ,eR,eS,eT,il,im,io,ip,iq,ir,iu,iv,iw,iy,iz,iA,iB,iC,iD,iE,iF,iG,iH,iI],[]⟩ w'):
  (Code.region 9 ops true).wp prog Q ⟨#[u0,u1,.pointer (some ⟨gd,0,none⟩),.pointer (some ⟨gc,0,none⟩),u4,u5,u6,u7,u8,u9,gF,gG,gH,gI,gJ,gK,gL,gM,gN,gO,gP,gQ,gR,gT,gV,gW,gX,gY,gZ,i6,i7,i8,ia,ib,ic,ie,ig,ii,ij,ik,il,im,io,ip,iq,ir,iu,iv,iw,iy,iz,iA,iB,iC,iD,iE,iF,iG,iH,iI],[]⟩ V:=by
 simp only[Tryz.f32,Zp,z0w] at hops
 simp at hops
 subst hops;have HQ:=hd_ hQ;have HC:Hid (∀ X,zB V X->X.cell? ⟨gd,0,none⟩=some (.slice none 0 0)/\X.cell? ⟨gd,1,none⟩=some (.slice none 0 0)/\X.cell? ⟨gc,4,none⟩=some (.slice none 0 0)):=hd_ fun X hX=>⟨(hD.kw hX hD.lt).cell 0,(hD.kw hX hD.lt).cell 1,(hC.kw hX hC.lt).cell 4⟩;obtain⟨x0,x1,x2⟩:=HC.out V (Zb _ _);clear hQ hD hC;go_region_held3 (fun w'=>zB V w'/\w'.cell? ⟨gd,0,none⟩=some (.slice none 0 0)/\w'.cell? ⟨gd,1,none⟩=some (.slice none 0 0)/\w'.cell? ⟨gc,4,none⟩=some (.slice none 0 0))
  ((refine z3t ?_ (HC _);repeat (first | with_reducible assumption | with_reducible exact Zb _ _ | with_reducible refine Below.drew ?_ | with_reducible refine z0t ?_ _ | refine Below.setCell ?_ (by first | exact hS6.size | exact hle | (have:=hS6.size;simp;omega) | (simp;done)) _)))
  (first
   | (go_at_call 64;refine (knClone _).mono ?_;rintro e w5 ⟨rfl,rfl⟩)
   | (go_at_call 65;refine (zh0 _ _ (by first | exact z0l _ _ _ | exact Blk.drew' (z0l _ _ _) | exact Blk.alloc (z0l _ _ _) _ | exact Blk.alloc (Blk.drew' (z0l _ _ _)) _ | exact Blk.drew' (Blk.alloc (z0l _ _ _) _) | exact z0v (by simp) | exact Blk.drew' (z0v (by simp)))).mono ?_;rintro e w6 ⟨A6,c6,rfl,hX6⟩;have hS6:zB V w6:=(by repeat (first | exact Zb _ _ | refine Below.drew ?_ | refine z0t ?_ _):zB V _).trans (hX6.mono (by simp;try omega));(first | (have hblk:=Blk.kw (g:=V.heap.size) (e:=27) (cs:=[zL none 0 0,zL none 0 0]) (by first | exact z0l V _ _ | exact Blk.drew' (z0l V _ _) | exact Blk.alloc (z0l V _ _) _ | exact Blk.alloc (Blk.drew' (z0l V _ _)) _ | exact Blk.drew' (Blk.alloc (z0l V _ _) _)) hX6 (by simp;try omega);have hle:V.heap.size<=V.heap.size:=Zd _;obtain⟨r0,r1,f0,f1⟩:=box2 hblk) | (have hblk:=Blk.kw (g:=V.heap.size+1) (e:=27) (cs:=[zL none 0 0,zL none 0 0]) (by first | exact z0v (by simp) | exact Blk.drew' (z0v (by simp))) hX6 (by simp;try omega);have hle:V.heap.size<=V.heap.size+1:=Nat.le_succ _;obtain⟨r0,r1,f0,f1⟩:=box2 hblk) | skip)))
 all_goals first
  | exact HQ _ _ _ _ _ _ _ _ _ _ _ _ _ ⟨⟨hS6.alloc hS6.size _,hS6.size,z0l w6 _ _,Zv _ _ _ _,(fun e=>by cases e)⟩,A6,c6,rfl⟩
  | exact HQ _ _ _ _ _ _ _ _ _ _ _ _ _ ⟨⟨(hS6.setCell hle _).setCell hle _,hle,(hblk.set_ 0 _).set_ 1 _,Zv _ _ _ _,(fun e=>by cases e)⟩,A6,c6,rfl⟩
end
theorem zpw {D:List Rev}{n:Nat}(h:zoo D n):∀ r∈D,r.num<=n:=fun r hr=>by
 obtain⟨i,hi,e⟩:=ZF (zfa.2 ⟨hr,rfl⟩:r∈zf9 D r.kt);have h1:=h.num r.kt i hi;rw[e] at h1;have h2:=zfg D r.kt;have:=h.len;omega
theorem z8h.of_congr {f g:zA->Option zA}(h:z8h g)(e:∀ p∈z8e,f p=g p):z8h f:=
 ⟨fun p hp l hl=>h.kt p hp l (by rw[<- e p hp];exact hl),fun p hp q hq l h1 h2=>h.inj p hp q hq l (by rw[<- e p hp];exact h1) (by rw[<- e q hq];exact h2)⟩
structure zpx (w wr:zW)(U g m B B2:Nat)(WL:List Hav)(k:Nat)(out:List Hav)(gv c:Nat)(A2:zP)(c2:Nat)(y:Hav):Prop where
 kept:z49 [g] w wr
 tape:z4d wr U g m
 own:∃ xs,wr.ownsRow B 84 3 (zL (some ⟨gv,0,none⟩) WL.length c) WL.length xs/\(∀ j,(k+1) * 3<=j->xs[j]? = (WL.flatMap Hav.cells)[j]?)/\xs[k * 3]? = some (zS y.kt)/\xs[k * 3+1]? = some (zI y.num)/\xs[k * 3+2]? = some (zS y.loc)
 outr:wr.ownsRow B2 84 3 (zL A2 out.length c2) out.length (out.flatMap Hav.cells)
 le:w.heap.size<=B
 le2:gv<B2
 gU:g<w.heap.size
 UU:U<=w.heap.size
 b2:B2<=wr.heap.size
section
variable {w wr w' : zW} {U g m m' B B2 k gv c c2 : Nat} {WL out : List Hav} {A2 : zP} {y : Hav}
theorem zpx.gv_ge (h:zpx w wr U g m B B2 WL k out gv c A2 c2 y):B<=gv/\w.heap.size<=gv:=by
 obtain⟨xs,h1,-,h2,-⟩:=h.own;have:=(zc0 h1 h2).2.2;exact⟨this,Zf h.le this⟩
theorem zpx.next (h:zpx w wr U g m B B2 WL k out gv c A2 c2 y)(hK:z49 [g] wr w')(hT:z4d w' U g m'):zpx w w' U g m' B B2 WL k out gv c A2 c2 y:=by
 have hg:=h.gv_ge;have hgU:=h.gU;have hle:=h.le;have hle2:=h.le2;obtain⟨xs,h1,h2⟩:=h.own;exact⟨h.kept.trans hK,hT,⟨xs,ziq h1 hK (fun x hx=>by have:=(h1.lt x hx).1;rw[Zm];omega),h2⟩,ziq h.outr hK (fun x hx=>by have:=(h.outr.lt x hx).1;rw[Zm];omega),h.le,h.le2,h.gU,h.UU,Zf h.b2 hK.size⟩
theorem zpx.ku (h:zpx w wr U g m B B2 WL k out gv c A2 c2 y)(hb:zB wr w'):zpx w w' U g m B B2 WL k out gv c A2 c2 y:=h.next (z49.kw hb) (h.tape.kw hb)
theorem zpx.cells (h:zpx w wr U g m B B2 WL k out gv c A2 c2 y):(wr.cell? ⟨gv,k * 3,none⟩=some (zS y.kt)/\wr.cell? ⟨gv,k * 3+1,none⟩=some (zI y.num)/\wr.cell? ⟨gv,k * 3+2,none⟩=some (zS y.loc))/\wr.frozen? ⟨gv,k * 3+1,none⟩=false/\wr.frozen? ⟨gv,k * 3+2,none⟩=false:=by
 obtain⟨xs,h1,-,h2,h3,h4⟩:=h.own;exact⟨⟨(zc0 h1 h2).1,(zc0 h1 h3).1,(zc0 h1 h4).1⟩,(zc0 h1 h3).2.1,(zc0 h1 h4).2.1⟩
theorem zpx.set_ (h:zpx w wr U g m B B2 WL k out gv c A2 c2 y)(i:Nat)(u:zV)(y':Hav)(hi:i<3)
  (h0:[zS y'.kt,zI y'.num,zS y'.loc]=[zS y.kt,zI y.num,zS y.loc].set i u):zpx w (wr.setCell ⟨gv,k * 3+i,none⟩ u) U g m B B2 WL k out gv c A2 c2 y':=by
 obtain⟨h5,h6⟩:=h.gv_ge;have hUU:=h.UU;have hgU:=h.gU;have hb:Below w.heap.size wr (wr.setCell ⟨gv,k * 3+i,none⟩ u):=(Zb w.heap.size wr).setCell (p:=⟨gv,k * 3+i,none⟩) h6 u;have hg:=z4a wr gv (k * 3+i) u;obtain⟨xs,h1,h2,h3⟩:=h.own;have ht:z4d (wr.setCell ⟨gv,k * 3+i,none⟩ u) U g m:=h.tape.keep hg.size fun x hx=>hb.block x (by omega)
 refine⟨h.kept.onto hb,ht,⟨xs.set (k * 3+i) u,zbz h1 u,fun j hj=>?_,?_⟩,z5b h.outr hg (fun x hx e=>by injection e with e;have:=(h.outr.lt x hx).1;have:=h.le2;omega),h.le,h.le2,h.gU,h.UU,Zf h.b2 hg.size⟩
 ·rw[Zx (by omega)];exact h2 j hj
 ·have hl:∀ j,j<3->(xs.set (k * 3+i) u)[k * 3+j]? = ([zS y.kt,zI y.num,zS y.loc].set i u)[j]?:=by
   intro j hj;have hx:xs[k * 3+j]? = [zS y.kt,zI y.num,zS y.loc][j]?:=by
    match j,hj with
    | 0,_=>exact h3.1
    | 1,_=>exact h3.2.1
    | 2,_=>exact h3.2.2
   by_cases e:i=j
   ·subst e;rw[Yb (by have:=(ZR.1 h3.2.2).1;omega),Yb hi]
   ·rw[Zx (by omega),Zx e,hx]
  rw[<- h0] at hl;exact⟨hl 0 (by omega),hl 1 (by omega),hl 2 (by omega)⟩
structure HlSt (w wr:zW)(U g m B B2:Nat)(WL:List Hav)(k:Nat)(out:List Hav)(lv:zV)(A2:zP)(c2:Nat):Prop where
 kept:z49 [g] w wr
 tape:z4d wr U g m
 own:∃ xs,wr.ownsRow B 84 3 lv WL.length xs/\(∀ j,k * 3<=j->xs[j]? = (WL.flatMap Hav.cells)[j]?)
 outr:wr.ownsRow B2 84 3 (zL A2 out.length c2) out.length (out.flatMap Hav.cells)
 le:w.heap.size<=B
 le2:∀ x,lv.ownBlock=some x->x<B2
 gU:g<w.heap.size
 UU:U<=w.heap.size
 b2:B2<=wr.heap.size
theorem HlSt.into {lv:zV}(h:HlSt w wr U g m B B2 WL k out lv A2 c2)(hk:k<WL.length):∃ gv c,lv=zL (some ⟨gv,0,none⟩) WL.length c/\zpx w wr U g m B B2 WL k out gv c A2 c2 WL[k]:=by
 obtain⟨xs,h1,h2⟩:=h.own;obtain⟨gv,c,e⟩:=z0s h1 (by omega)
 subst e;have hf:=fun j hj=>z3v Hav.cells 3 (fun _=>rfl) WL k j hk hj;exact⟨gv,c,rfl,h.kept,h.tape,⟨xs,h1,fun j hj=>h2 j (by omega),by have:=hf 0 (by omega);rw[Nat.add_zero] at this;rw[h2 _ (by omega),this];rfl,by rw[h2 _ (by omega),hf 1 (by omega)];rfl,by rw[h2 _ (by omega),hf 2 (by omega)];rfl⟩,h.outr,h.le,h.le2 gv rfl,h.gU,h.UU,h.b2⟩
theorem zpx.back (h:zpx w wr U g m B B2 WL k out gv c A2 c2 y):HlSt w wr U g m B B2 WL (k+1) out (zL (some ⟨gv,0,none⟩) WL.length c) A2 c2:=by
 obtain⟨xs,h1,h2,-⟩:=h.own;exact⟨h.kept,h.tape,⟨xs,h1,h2⟩,h.outr,h.le,(fun x e=>by injection e with e;subst e;exact h.le2),h.gU,h.UU,h.b2⟩
theorem zpx.push {w6:zW}{A':zP}{c':Nat}(h:zpx w wr U g m B B2 WL k out gv c A2 c2 y)(ho:w6.ownsRow B2 84 3 (zL A' (out.length+1) c') (out.length+1) (out.flatMap Hav.cells++[zS y.kt,zI y.num,zS y.loc]))(hg:wr.grownBy w6 (zL A2 out.length c2).ownBlock):
  HlSt w w6 U g m B B2 WL (k+1) (out++[y]) (zL (some ⟨gv,0,none⟩) WL.length c) A' c':=by
 obtain⟨h5,h6⟩:=h.gv_ge;have hle2:=h.le2;have hK:z49 [g] w w6:=h.kept.grown_own hg (fun x e=>by have:=(h.outr.lt x e).1;omega)
 obtain⟨xs,h1,h2,-⟩:=h.own;refine⟨hK,h.tape.keep hg.size fun x hx=>hg.block x (Zq hx (Zf h.UU h.kept.size)) (fun e=>by have:=(h.outr.lt x e.symm).1;have:=h.UU;omega),⟨xs,z5b h1 hg (fun x hx e=>by have:=(h.outr.lt x e).1;have hx':gv=x:=(by injection hx);omega),h2⟩,?_,h.le,(fun x e=>by injection e with e;subst e;exact h.le2),h.gU,h.UU,Zf h.b2 hg.size⟩
 rw[Zc,ZI];exact ho
end
section
variable {u0 u1 u2 u3 u4 u5 u6 u7 u8 u9 gF gG gH gI gJ gK gL gM gN gO gP gQ gR gT gV gW gX gY gZ i6 i7 i8 ia ib ic ie ig : zV}
def WaOk (B:Nat)(w':zW)(D:List Rev)(num:Int)(es:List Edt)(A A2:zP)(n c c2:Nat)(e0:Int):Prop:=
 e0≠0\/e0=0/\n=D.length+es.length/\z3w w' (zL A n c) (D++es.map (zgg num))/\(∀ x,(zL A n c).ownBlock=some x->B<=x/\x<w'.heap.size)/\z3y w' (zL A2 0 c2) []
theorem wa_form {w:zW}{D:List Rev}{es:List Edt}{num:Int}{e:Ending}{w':zW}(h:zgy w D es num e w'):∃(A A2:zP) (n c c2:Nat) (e0:Int),e=.returned (.tuple #[.agg #[zL A n c,zL A2 0 c2],zI e0])/\zB w w'/\WaOk w.heap.size w' D num es A A2 n c c2 e0/\(e0≠0->A=none):=by
 obtain⟨hb,⟨n,hn,rfl⟩ | ⟨A,A2,c,c2,rfl,h1,h2,h3⟩⟩:=h
 ·exact⟨none,none,0,0,0,n,rfl,hb,.inl hn,fun _=>rfl⟩
 ·exact⟨A,A2,_,c,c2,0,rfl,hb,.inr ⟨rfl,rfl,h1,h2,h3⟩,fun h=>absurd rfl h⟩
structure MkP (w V w':zW)(U g gw m:Nat)(D:List Rev)(dv dr cv:zV)(n0:Nat)(num:Int)(A A2:zP)(n c c2:Nat)(e0:Int)(g8:Nat)(cv':zV)(l':List Cnk)(es:List Edt):Prop where
 ws:WsB w w' U g gw m D dv dr cv' l'
 len:l'.length<=n0+6
 frm:Frm V w' g gw cv cv'
 box:Blk w' g8 27 [zL A n c,zL A2 0 c2]
 lt:V.heap.size<=g8
 edk:EdK D 6 es
 ok:WaOk V.heap.size w' D num es A A2 n c c2 e0
 far:∀ x,(zL A n c).ownBlock=some x->cv'.ownBlock≠some x/\x≠g8
theorem zrq {w w':zW}{v:zV}(h:z3y w v []):z3y w' v []:=by
 obtain⟨A,c,e,hc,hm,hl,h0,-⟩:=h;exact⟨A,c,e,hc,hm,hl,h0,fun h=>absurd h (by decide)⟩
theorem wa_far {B:Nat}{w':zW}{D:List Rev}{num:Int}{es:List Edt}{A A2:zP}{n c c2:Nat}{e0:Int}(h:WaOk B w' D num es A A2 n c c2 e0)(he:e0=0){x:Nat}(hx:(zL A n c).ownBlock=some x):B<=x:=by
 rcases h with h | h
 ·exact absurd he h
 ·exact (h.2.2.2.1 x hx).1
theorem mk_fin {w V Y w8:zW}{U g gw m:Nat}{D:List Rev}{dv dr cv:zV}{n0:Nat}{num:Int}{A A2:zP}{n c c2:Nat}{e0:Int}{g8:Nat}{cv':zV}{l':List Cnk}{es:List Edt}
  (hS:WsB w w8 U g gw m D dv dr cv' l') (hl:l'.length<=n0+6) (hF:Frm V w8 g gw cv cv') (hb:Blk w8 g8 27 [zL none 0 0,zL none 0 0]) (h1:V.heap.size<=g8) (hw:w.heap.size<=V.heap.size) (hgw:gw<V.heap.size) (h2:cv'.ownBlock≠some g8) (h3:∀ x,dv.ownBlock=some x->x<V.heap.size)
  (h4:g8<Y.heap.size) (hcv:∀ x,cv'.ownBlock=some x->x<Y.heap.size) (hk:EdK D 6 es) (hW:WaOk Y.heap.size w8 D num es A A2 n c c2 e0) (hnil:e0≠0->A=none):
  MkP w V ((w8.setCell ⟨g8,0,none⟩ (zL A n c)).setCell ⟨g8,1,none⟩ (zL A2 0 c2)) U g gw m D dv dr cv n0 num A A2 n c c2 e0 g8 cv' l' es:=by
 have d3:dv.ownBlock≠some g8:=fun e=>by have:=h3 _ e;omega
 have hne:g8≠gw:=by omega
 have hg8:w.heap.size<=g8:=by omega
 have hfr:∀ x,(zL A n c).ownBlock=some x->Y.heap.size<=x:=fun x hx=>by
  by_cases he:e0=0
  ·exact wa_far hW he hx
  ·have hx2:=hx;rw[hnil he] at hx2;cases hx2
 refine⟨(hS.set_at hg8 hne h2 d3).set_at hg8 hne h2 d3,hl,?_,(hb.set_ 0 _).set_ 1 _,h1,hk,?_,fun x hx=>⟨fun e=>by have:=hcv x e;have:=hfr x hx;omega,by have:=hfr x hx;omega⟩⟩
 ·exact (hF.kg (z4a _ g8 0 _) (fun k e=>by injection e with e;omega)).kg (z4a _ g8 1 _) (fun k e=>by injection e with e;omega)
 ·rcases hW with h | ⟨h5,h6,h7,h8,h9⟩
  ·exact .inl h
  ·have n8:(zL A n c).ownBlock≠some g8:=fun e=>by have:=hfr _ e;omega
   exact .inr ⟨h5,h6,Row.set_far (Row.set_far h7 n8) n8,(fun x hx=>⟨by have:=(h8 x hx).1;omega,by simp;exact (h8 x hx).2⟩),zrq h9⟩
theorem mk_finN {w V Y w8:zW}{U g gw m:Nat}{D:List Rev}{dv dr cv:zV}{n0:Nat}{num:Int}{A A2:zP}{n c c2:Nat}{e0:Int}{cv':zV}{l':List Cnk}{es:List Edt}
  (hS:WsB w w8 U g gw m D dv dr cv' l') (hl:l'.length<=n0+6) (hF:Frm V w8 g gw cv cv') (hY:V.heap.size<=Y.heap.size) (hcv:∀ x,cv'.ownBlock=some x->x<Y.heap.size) (hk:EdK D 6 es) (hW:WaOk Y.heap.size w8 D num es A A2 n c c2 e0) (hnil:e0≠0->A=none):
  MkP w V (w8.alloc (zC #[zL A n c,zL A2 0 c2] 27)) U g gw m D dv dr cv n0 num A A2 n c c2 e0 w8.heap.size cv' l' es:=by
 have hA:zB w8 (w8.alloc (zC #[zL A n c,zL A2 0 c2] 27)):=zR;have hfr:∀ x,(zL A n c).ownBlock=some x->Y.heap.size<=x:=fun x hx=>by
  by_cases he:e0=0
  ·exact wa_far hW he hx
  ·have hx2:=hx;rw[hnil he] at hx2;cases hx2
 refine⟨hS.ku hA,hl,hF.kg (row:=none) ⟨hA.os,hA.tape,hA.output,hA.size,fun k hk _=>hA.block k hk⟩ (fun k e=>by cases e),z0l w8 _ _,hF.size,hk,?_,fun x hx=>⟨fun e=>by have:=hcv x e;have:=hfr x hx;omega,fun e=>?_⟩⟩
 ·rcases hW with h | ⟨h5,h6,h7,h8,h9⟩
  ·exact .inl h
  ·exact .inr ⟨h5,h6,z3w.kw h7 hA,(fun x hx=>⟨Zf hY (h8 x hx).1,Zq (h8 x hx).2 hA.size⟩),zrq h9⟩
 ·rcases hW with h | ⟨h5,h6,h7,h8,h9⟩
  ·rw[hnil h] at hx;cases hx
  ·have:=(h8 x hx).2;omega
structure MkQ (w V w5:zW)(U g gw m:Nat)(D:List Rev)(dv dr cv:zV)(n0:Nat)(num:Int)(cv':zV)(l':List Cnk)(es:List Edt):Prop where
 ws:WsB w w5 U g gw m D dv dr cv' l'
 len:l'.length<=n0+6
 frm:Frm V w5 g gw cv cv'
 edk:EdK D 6 es
theorem MkQ.ku {w V w5 X:zW}{U g gw m:Nat}{D:List Rev}{dv dr cv:zV}{n0:Nat}{num:Int}{cv':zV}{l':List Cnk}{es:List Edt}(h:MkQ w V w5 U g gw m D dv dr cv n0 num cv' l' es)(hA:zB w5 X):MkQ w V X U g gw m D dv dr cv n0 num cv' l' es:=
 ⟨h.ws.ku hA,h.len,h.frm.kg (row:=none) ⟨hA.os,hA.tape,hA.output,hA.size,fun k hk _=>hA.block k hk⟩ (fun k e=>by cases e),h.edk⟩
theorem mkR7 (ops:Array Oper)(hops:Tryz.f10.body.bind (z0w 7)=some ops)(Q:Exit->Act->zW->Prop){w V:zW}{U g gw m:Nat}{D:List Rev}{Ar Aq:zP}{cr cq:Nat}{cv:zV}{l:List Cnk}(num:Int)
  (hS:WsB w V U g gw m D (zL Ar D.length cr) (zL Aq 0 cq) cv l) (hl:l.length<=40000) (hm:m<=70000) (hD:D.length<=900) {dn:Nat} (hDp:zoo D dn) (hdn:dn<=900) (he:∀ X,z49 [g] w X->Env X) (hQr:z3y w (zL Aq 0 cq) [])
  (hQ:∀(eD eE eF eG eH eI eJ eK eL:zV) (A A2:zP) (n c c2:Nat) (e0:Int) (g8:Nat) (cv':zV) (l':List Cnk) (es:List Edt) (w':zW),Hid (MkP w V w' U g gw (m+70) D (zL Ar D.length cr) (zL Aq 0 cq) cv l.length num A A2 n c c2 e0 g8 cv' l' es)->Q .normal ⟨#[.pointer (some ⟨g,0,none⟩),u1,u2,u3,u4,.pointer (some ⟨gw,0,none⟩),zI num,u7,.pointer (some ⟨g8,0,none⟩),zI e0,gF,gG,gH,gI,gJ,gK,gL,gM,gN,gO,gP,gQ,gR,eD,eE,eF,eG,eH,eI,eJ,eK,eL,ia,ib,ic,ie,ig],[]⟩ w'):
  (Code.region 7 ops true).wp prog Q ⟨#[.pointer (some ⟨g,0,none⟩),u1,u2,u3,u4,.pointer (some ⟨gw,0,none⟩),zI num,u7,u8,u9,gF,gG,gH,gI,gJ,gK,gL,gM,gN,gO,gP,gQ,gR,gT,gV,gW,gX,gY,gZ,i6,i7,i8,ia,ib,ic,ie,ig],[]⟩ V:=by
 simp only[Tryz.f10,Zp,z0w] at hops
 simp at hops
 subst hops;have HQ:=hd_ hQ;have HCH:Hid (∀ X,zB V X->Calls prog 36 #[.pointer (some ⟨gw,0,none⟩),.pointer (some ⟨g,0,none⟩),zI num] X fun e w5=>∃(Ae:zP) (ce:Nat) (es:List Edt) (cv':zV) (l':List Cnk),e=.returned (.agg #[zI num,zS ⟨#[]⟩,zS ⟨#[]⟩,zL Ae es.length ce,zL none 0 0])/\z3x w5 (zL Ae es.length ce) es/\(∀ k cs,Blk X k 27 cs->V.heap.size<=k->Blk w5 k 27 cs/\cv'.ownBlock≠some k)/\MkQ w V w5 U g gw (m+70) D (zL Ar D.length cr) (zL Aq 0 cq) cv l.length num cv' l' es/\V.heap.size<=w5.heap.size/\X.heap.size<=w5.heap.size):=hd_ (fun X hX=>(zrp (hS.ku hX) (by omega) (by omega) (by omega) num).mono fun e w5 h=>by
  obtain⟨ev,es,cv',l',rfl,hE,hK,hS5,hl5,hF5⟩:=h;obtain⟨Ae,ce,rfl,-⟩:=id hE;have hF:=(Frm.of_kept (gw:=gw) (cv:=cv) (z49.kw (S:=[g]) hX)).trans hF5;have hcl:∀ x,cv.ownBlock=some x->x<V.heap.size:=fun x hx=>(hS.cnk.lt x hx).2;have h1:=hS.box.lt;have h2:=hS.gU;have h3:=hS.UU;have h4:=hS.le;refine⟨Ae,ce,es,cv',l',rfl,hE,fun k cs hB hk=>⟨hF5.blk hB (by omega) (by omega) (fun e=>by have:=hcl k e;omega),fun e=>?_⟩,⟨hS5,hl5,hF,hK⟩,Zf hX.size hF5.size,hF5.size⟩
  rcases hF5.ob with e2 | e2
  ·rw[e2] at e;have:=hcl k e;omega
  ·have:=e2 k e;have:=hB.lt;omega)
 have HAP:Hid (∀(Ae:zP) (ce:Nat) (es:List Edt) (cv':zV) (l':List Cnk) (Y:zW),MkQ w V Y U g gw (m+70) D (zL Ar D.length cr) (zL Aq 0 cq) cv l.length num cv' l' es->z3x Y (zL Ae es.length ce) es->Calls prog 35 #[.agg #[zL Ar D.length cr,zL Aq 0 cq],.agg #[zI num,zS ⟨#[]⟩,zS ⟨#[]⟩,zL Ae es.length ce,zL none 0 0]] Y fun e w8=>∃(A A2:zP) (n c c2:Nat) (e0:Int),e=.returned (.tuple #[.agg #[zL A n c,zL A2 0 c2],zI e0])/\zB Y w8/\(∀ k cs,Blk Y k 27 cs->Blk w8 k 27 cs)/\MkQ w V w8 U g gw (m+70) D (zL Ar D.length cr) (zL Aq 0 cq) cv l.length num cv' l' es/\WaOk Y.heap.size w8 D num es A A2 n c c2 e0/\(e0≠0->A=none)/\(∀ x,cv'.ownBlock=some x->x<Y.heap.size)):=hd_ (fun Ae ce es cv' l' Y hQ hE=>by
  refine (zgz D es num Ar Aq Ae cr cq ce Y (he Y hQ.ws.kept) hQ.ws.revs (by omega) hE hQ.edk.len (fun x hx=>?_) (zrq hQr)).mono fun e w8 h=>?_
  ·obtain⟨j,hj,-,hp⟩:=hQ.edk.six x hx;have hb:=hQ.edk.base x hx;rw[zop hDp] at hb;have hlog:(zf9 D x.kt).length<=D.length:=by unfold zf9;exact ZS _ _
   have h6:∀ p∈z8e,p.size<=2000000:=by decide
   exact⟨h6 _ (hp ▸ Za hj),by omega,by omega⟩
  ·obtain⟨A,A2,n,c,c2,e0,rfl,hb,hW,hn⟩:=wa_form h;exact⟨A,A2,n,c,c2,e0,rfl,hb,fun k cs hB=>hB.kw hb hB.lt,hQ.ku hb,hW,hn,fun x hx=>(hQ.ws.cnk.lt x hx).2⟩)
 have HCL:Hid (∀ {W:zW} {cv':zV} {l':List Cnk} {es:List Edt},MkQ w V W U g gw (m+70) D (zL Ar D.length cr) (zL Aq 0 cq) cv l.length num cv' l' es->W.cell? ⟨gw,0,none⟩=some (.slice Ar D.length cr)/\W.cell? ⟨gw,1,none⟩=some (.slice Aq 0 cq)):=hd_ fun h=>⟨h.ws.box.cell 0,h.ws.box.cell 1⟩;have HO:Hid (w.heap.size<=V.heap.size/\gw<V.heap.size/\∀ x,(zL Ar D.length cr).ownBlock=some x->x<V.heap.size):=hd_ ⟨hS.kept.size,hS.box.lt,fun x hx=>(hS.far x hx).2.1⟩;have hVA:zB V (V.alloc (zC #[zL none 0 0,zL none 0 0] 27)).drew:=(zR).drew;have x0:V.cell? ⟨gw,0,none⟩=some (.slice Ar D.length cr):=hS.box.cell 0;have x1:V.cell? ⟨gw,1,none⟩=some (.slice Aq 0 cq):=hS.box.cell 1;have hS1:=hS.ku hVA;have y0:(V.alloc (zC #[zL none 0 0,zL none 0 0] 27)).drew.cell? ⟨gw,0,none⟩=some (.slice Ar D.length cr):=hS1.box.cell 0;have y1:(V.alloc (zC #[zL none 0 0,zL none 0 0] 27)).drew.cell? ⟨gw,1,none⟩=some (.slice Aq 0 cq):=hS1.box.cell 1;clear hVA hS1 hS hQ hDp he hQr hl hm hD hdn;refine wp_region_noPanic ?_;go_region_law (first
  | (go_simp;go_at_call 36;refine (HCH _ (by repeat (first | exact Zb _ _ | refine Below.drew ?_ | refine z0t ?_ _))).mono ?_;rintro e w5 ⟨Ae,ce,es,cv',l',rfl,hE5,hB5,hQ5,hZ5,hZX⟩;obtain⟨p0,p1⟩:=HCL.out hQ5;(try have hblk5:=hB5 _ _ (Blk.drew' (z0l V [zL none 0 0,zL none 0 0] 27)) (Zd _));(try have hblk5:=hB5 _ _ (z0l V [zL none 0 0,zL none 0 0] 27) (Zd _));have hA5:zB w5 (w5.alloc (zC #[zL none 0 0,zL none 0 0] 27)):=zR;obtain⟨q0,q1⟩:=HCL.out (hQ5.ku hA5))
  | (go_simp;go_at_call 35;refine (HAP Ae ce es cv' l' _ (by first | exact hQ5 | exact hQ5.ku hA5) (by first | exact hE5 | exact z3x.kw hE5 hA5)).mono ?_;rintro e w8 ⟨A,A2,n,c,c2,e0,rfl,hb8,hB8,hQ8,hW8,hn8,hcv8⟩;(first | (have hblk8:=hB8 _ _ hblk5.1;obtain⟨r0,r1,f0,f1⟩:=box2 hblk8) | (have hblk8:=hB8 _ _ (z0l w5 [zL none 0 0,zL none 0 0] 27);obtain⟨r0,r1,f0,f1⟩:=box2 hblk8) | skip))
  | fail)
 all_goals refine NoPanic.normal ?_
 all_goals first
  | exact HQ _ _ _ _ _ _ _ _ _ A A2 n c c2 e0 _ cv' l' es _ (mk_finN hQ8.ws hQ8.len hQ8.frm hZ5 hcv8 hQ8.edk hW8 hn8)
  | exact HQ _ _ _ _ _ _ _ _ _ A A2 n c c2 e0 _ cv' l' es _ (mk_fin hQ8.ws hQ8.len hQ8.frm hblk8 (Zd _) HO.1 HO.2.1 hblk5.2 HO.2.2 (by have:=hZX;simp at this;omega) hcv8 hQ8.edk hW8 hn8)
  | exact HQ _ _ _ _ _ _ _ _ _ A A2 n c c2 e0 _ cv' l' es _ (mk_fin hQ8.ws hQ8.len hQ8.frm hblk8 hZ5 HO.1 HO.2.1 (fun e=>by have:=(hQ5.ws.cnk.lt _ e).2;omega) HO.2.2 (by simp) hcv8 hQ8.edk hW8 hn8)
end
