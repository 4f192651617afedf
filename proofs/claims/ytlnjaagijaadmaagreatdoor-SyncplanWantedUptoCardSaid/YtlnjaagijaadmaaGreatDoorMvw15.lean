/- A part. -/
import Derived.Test.YtlnjaagijaadmaaGreatDoorMxDfB
set_option linter.unusedVariables false
set_option linter.unusedSimpArgs false
set_option maxHeartbeats 4000000
set_option maxRecDepth 100000
namespace Go.Proofs.YtlnjaagijaadmaaGreatDoor
open Go.Proofs.Tryz
open Go.RowKit
def zf4:zA->Option Rev:=fun _=>none
theorem knOne (p:zA)(g bl be bn:Nat)(Ae:zP)(ce:Nat)(w:zW)(hk:Chk w g (zL none 0 0) (zL none 0 0) 1 ⟨#[]⟩ ⟨#[]⟩ (zL Ae 2 ce) (zL none 0 0) bl be bn)(hL:z4x w bl zf4):
  Calls prog 174 #[.pointer (some ⟨g,0,none⟩),.agg #[zS p,zI 1,zI 1,.bool false,.bool false,.bool false,.int .u64 1,zI 1,zI 0,zS ⟨#[]⟩,zI 0,zI 0]] w fun e w'=>e=.returned (zI 0)/\zB w w':=by
 have hbW:zB w (w.alloc (zC #[zS p,zI 1,zI 1,.bool false,.bool false,.bool false,.int .u64 1,zI 1,zI 0,zS ⟨#[]⟩,zI 0,zI 0] 88)):=zR;have HLV:Hid (Calls prog 210 #[.pointer (some ⟨g,0,none⟩),zS p] (w.alloc (zC #[zS p,zI 1,zI 1,.bool false,.bool false,.bool false,.int .u64 1,zI 1,zI 0,zS ⟨#[]⟩,zI 0,zI 0] 88)) fun e w'=>e=.returned (.tuple #[.agg #[zS ⟨#[]⟩,zI 0,zI 0,zI 0,zI 0,.bool false,.bool false,.bool false,.int .u64 0,zI 0,zS ⟨#[]⟩,zI 0],.bool false])/\Below (w.alloc (zC #[zS p,zI 1,zI 1,.bool false,.bool false,.bool false,.int .u64 1,zI 1,zI 0,zS ⟨#[]⟩,zI 0,zI 0] 88)).heap.size (w.alloc (zC #[zS p,zI 1,zI 1,.bool false,.bool false,.bool false,.int .u64 1,zI 1,zI 0,zS ⟨#[]⟩,zI 0,zI 0] 88)) w'):=hd_ (zf3 zf4 p g _ _ _ _ 1 _ _ bl be bn _ (Blk.kw hk hbW (Blk.lt hk)) (z2l.kw hL hbW));have HX0:=hd_ (z0l w [zS p,zI 1,zI 1,.bool false,.bool false,.bool false,.int .u64 1,zI 1,zI 0,zS ⟨#[]⟩,zI 0,zI 0] 88);have HFT:=hd_ (fun W=>z3c 1 false false false W);have HIL:=hd_ (fun W=>z3l 1 W);have HB:=hd_ hbW;clear hk hL hbW;go_enter func174,ntmps174;go_wp2_with fail;refine HLV.mono ?_;rintro e w1 ⟨rfl,hb1⟩;dsimp only;have hX1:=(HX0.out.kw hb1 HX0.out.lt).alloc (zC #[zS ⟨#[]⟩,zI 0,zI 0,zI 0,zI 0,.bool false,.bool false,.bool false,.int .u64 0,zI 0,zS ⟨#[]⟩,zI 0] 78);obtain⟨c0,c1,c2,c3,c4,c5,c6,c7,c8,c9,c10,c11⟩:=z57 hX1;have hR:=z0l w1 [zS ⟨#[]⟩,zI 0,zI 0,zI 0,zI 0,.bool false,.bool false,.bool false,.int .u64 0,zI 0,zS ⟨#[]⟩,zI 0] 78;obtain⟨d0,d1,d2,d3,d4,d5,d6,d7,d8,d9,d10,d11⟩:=z57 hR
 have HBW:=hd_ (z0t (z0r HB hb1) (zC #[zS ⟨#[]⟩,zI 0,zI 0,zI 0,zI 0,.bool false,.bool false,.bool false,.int .u64 0,zI 0,zS ⟨#[]⟩,zI 0] 78));have HX1:=hd_ hX1;have HR1:=hd_ hR;clear hb1 hX1 hR HLV HB HX0;go_upto_region 2 with fail;generalize w1.alloc (zC #[zS ⟨#[]⟩,zI 0,zI 0,zI 0,zI 0,.bool false,.bool false,.bool false,.int .u64 0,zI 0,zS ⟨#[]⟩,zI 0] 78)=W1 at c0 c1 c2 c3 c4 c5 c6 c7 c8 c9 c10 c11 d0 d1 d2 d3 d4 d5 d6 d7 d8 d9 d10 d11 HBW HX1 HR1 |-;generalize w1.heap.size=g2 at d0 d1 d2 d3 d4 d5 d6 d7 d8 d9 d10 d11 HR1 |-;go_wp2_with fail;refine (HFT _).mono ?_;rintro e w5 ⟨rfl,hb5⟩;have HB5:=hd_ (z0r HBW hb5);clear c0 c1 c2 c3 c4 c5 c6 c7 c8 c9 c10 c11 d0 d1 d2 d3 d4 d5 d6 d7 d8 d9 d10 d11;obtain⟨c0,c1,c2,c3,c4,c5,c6,c7,c8,c9,c10,c11⟩:=z57 (HX1.out.kw hb5 HX1.out.lt);clear hb5;have q0:z2q 90 (z2p 1 false false)=0:=rfl;rw[q0];go_wp2_with fail;refine (HIL _).mono ?_;rintro e w6 ⟨rfl,rfl⟩;have q1:z32 1=true:=rfl;rw[q1];go_wp2_with fail;go_ret;exact⟨rfl,HB5⟩
theorem knSize (g bl be bn:Nat)(Ae:zP)(ce:Nat)(w:zW)(hk:Chk w g (zL none 0 0) (zL none 0 0) 1 ⟨#[]⟩ ⟨#[]⟩ (zL Ae 2 ce) (zL none 0 0) bl be bn):Calls prog 116 #[.pointer (some ⟨g,0,none⟩)] w fun e w'=>e=.returned (zI 0)/\zB w w':=by
 obtain⟨k0,k1,k2,k5,k6,-,-,-⟩:=z40 hk;have HK:=hd_ hk;clear hk;go_enter func116,ntmps116;go_upto_region 1 with fail;go_quiet (fail)
 go_wp2_with fail;refine wp_loop_rounds 1 ?_;rw[rounds_succ];go_wp2_with fail;go_ret;exact⟨rfl,below_drewN (Zb _ _) _⟩
theorem knRoom (g bl be bn:Nat)(Ae:zP)(ce:Nat)(w:zW)(hk:Chk w g (zL none 0 0) (zL none 0 0) 1 ⟨#[]⟩ ⟨#[]⟩ (zL Ae 2 ce) (zL none 0 0) bl be bn):Calls prog 120 #[.pointer (some ⟨g,0,none⟩)] w fun e w'=>e=.returned (zI 0)/\zB w w':=by
 obtain⟨k0,k1,k2,k5,k6,-,-,-⟩:=z40 hk;clear hk;go_enter func120,ntmps120;go_upto_region 1 with fail;go_quiet (fail)
 go_wp2_with fail;go_ret;exact⟨rfl,below_drewN (Zb _ _) _⟩
theorem knRecs (g bl be bn:Nat)(Ae:zP)(ce:Nat)(w:zW)(hk:Chk w g (zL none 0 0) (zL none 0 0) 1 ⟨#[]⟩ ⟨#[]⟩ (zL Ae 2 ce) (zL none 0 0) bl be bn):Calls prog 119 #[.pointer (some ⟨g,0,none⟩)] w fun e w'=>e=.returned (zI 0)/\zB w w':=by
 have hA:zB w (w.alloc (.map #[] 0)):=zR;obtain⟨k0,k1,k2,k5,k6,-,-,-⟩:=z40 (Blk.kw hk hA (Blk.lt hk));clear hk;have hmm:=@run_makeMap prog;go_enter func119,ntmps119;go_wp2_with fail;refine wp_loop_rounds 1 ?_;rw[rounds_succ];go_wp2_with fail;refine wp_loop_rounds 1 ?_;rw[rounds_succ];go_wp2_with fail;go_ret;exact⟨rfl,hA⟩
def knE (p:zA):Edt:=⟨p,1,⟨1,false,false,false⟩,1,1,0,z2r,0,0⟩
def knA:zA:=⟨#[47,47,100,47,97]⟩
def knB:zA:=⟨#[47,47,100,47,98]⟩
def KnE (w:zW)(Ae:zP)(ce:Nat):Prop:=z3x w (zL Ae 2 ce) [knE knA,knE knB]
def KnAt (w:zW)(a:Addr)(p:zA):Prop:=w.cell? a=some (zS p)/\w.cell? ⟨a.block,a.off+1,none⟩=some (zI 1)/\w.cell? ⟨a.block,a.off+2,none⟩=some (zI 1)/\w.cell? ⟨a.block,a.off+3,none⟩=some (.bool false)/\w.cell? ⟨a.block,a.off+4,none⟩=some (.bool false)/\w.cell? ⟨a.block,a.off+5,none⟩=some (.bool false)/\w.cell? ⟨a.block,a.off+6,none⟩=some (.int .u64 1)/\w.cell? ⟨a.block,a.off+7,none⟩=some (zI 1)/\w.cell? ⟨a.block,a.off+8,none⟩=some (zI 0)/\w.cell? ⟨a.block,a.off+9,none⟩=some (zS ⟨#[]⟩)/\w.cell? ⟨a.block,a.off+10,none⟩=some (zI 0)/\w.cell? ⟨a.block,a.off+11,none⟩=some (zI 0)
theorem KnE.at_ {w:zW}{A:zP}{c:Nat}(h:KnE w A c)(k:Nat)(hk:k<2):∃ ad p,A=some ad/\ad.block<w.heap.size/\KnAt w (ad.add (k * 12)) p/\(k=0->p=knA)/\(k=1->p=knB):=by
 obtain⟨ad,e,hb,hx⟩:=z3x.at_ (l:=[knE knA,knE knB]) h (k:=k) hk;rcases (by omega:k=0\/k=1) with rfl | rfl
 ·exact⟨ad,knA,e,hb,hx,fun _=>rfl,(fun e=>by cases e)⟩
 ·exact⟨ad,knB,e,hb,hx,(fun e=>by cases e),fun _=>rfl⟩
theorem KnE.kw {w w':zW}{A:zP}{c:Nat}(h:KnE w A c)(hb:zB w w'):KnE w' A c:=z3x.kw h hb
theorem knMoves (g bl be bn:Nat)(Ae:zP)(ce:Nat)(w:zW)(hk:Chk w g (zL none 0 0) (zL none 0 0) 1 ⟨#[]⟩ ⟨#[]⟩ (zL Ae 2 ce) (zL none 0 0) bl be bn)(hE:KnE w Ae ce):Calls prog 118 #[.pointer (some ⟨g,0,none⟩)] w fun e w'=>e=.returned (zI 0)/\zB w w':=by
 have HK:=hd_ (fun X (h:zB w X)=>z40 (Blk.kw hk h (Blk.lt hk)));have HE:=hd_ (fun X (h:zB w X)=>KnE.kw hE h);clear hk hE;have hA:zB w (w.alloc (.map #[] 0)):=zR;obtain⟨-,-,-,k5,-,-,-,-⟩:=HK.out _ hA;have hmm:=@run_makeMap prog;go_enter func118,ntmps118;go_wp2_with fail;clear hmm k5;generalize w.alloc (.map #[] 0)=W1 at hA |-;go_loopw [15] (fun i wr=>∃ k:Nat,i=zI k/\k<=2/\zB w wr) (fun i _=>2 - (intOf i).toNat)
 exact⟨0,rfl,by omega,hA⟩
 obtain⟨k,rfl,hk,hb⟩:=hrel;by_cases hlt:k<2
 ·obtain⟨ad,p,rfl,hab,⟨x0,x1,x2,x3,x4,x5,x6,x7,x8,x9,x10,x11⟩,-,-⟩:=(HE.out wr hb).at_ k hlt;have hb2:=z0t hb (zC #[zS p,zI 1,zI 1,.bool false,.bool false,.bool false,.int .u64 1,zI 1,zI 0,zS ⟨#[]⟩,zI 0,zI 0] 88);have q:decide ((k:Int)<2)=true:=by simp;omega
  go_wp2_with fail;go_roundw
  exact⟨k+1,by go_num,by omega,hb2⟩
  simp [intOf];omega
 ·have hk2:k=2:=by omega
  subst hk2;obtain⟨-,-,-,k5,-,-,-,-⟩:=HK.out _ hb;go_wp2_with fail;clear k5;go_loopw [34] (fun i wr=>∃ k:Nat,i=zI k/\k<=2/\zB w wr) (fun i _=>2 - (intOf i).toNat)
  exact⟨0,rfl,by omega,hb⟩
  obtain⟨k,rfl,hk,hb⟩:=hrel;by_cases hlt:k<2
  ·obtain⟨ad,p,rfl,hab,⟨x0,x1,x2,x3,x4,x5,x6,x7,x8,x9,x10,x11⟩,-,-⟩:=(HE.out wr hb).at_ k hlt;have hb2:=z0t hb (zC #[zS p,zI 1,zI 1,.bool false,.bool false,.bool false,.int .u64 1,zI 1,zI 0,zS ⟨#[]⟩,zI 0,zI 0] 88);have q:decide ((k:Int)<2)=true:=by simp;omega
   go_wp2_with fail;go_roundw
   exact⟨k+1,by go_num,by omega,hb2⟩
   simp [intOf];omega
  ·have hk2:k=2:=by omega
   subst hk2;go_wp2_with fail;go_ret;exact⟨rfl,hb⟩
theorem z49.onto {S:List Nat}{w W w':zW}(h:z49 S w W)(hb:Below w.heap.size W w'):z49 S w w':=
 ⟨hb.os.trans h.os,hb.tape.trans h.tape,hb.output.trans h.output,Zf h.size hb.size,fun k hk hs=>(hb.block k hk).trans (h.block k hk hs)⟩
theorem z4d.onto {w W w':zW}{U g m:Nat}(h:z4d W U g m)(hU:U<=w.heap.size)(hb:Below w.heap.size W w'):z4d w' U g m:=h.keep hb.size fun x hx=>hb.block x (by omega)
def WtPost (w:zW)(U g m:Nat)(e:Ending)(w':zW):Prop:=∃ ty:Ty,e=.returned ty.val/\z4d w' U g m/\z49 [g] w w'
theorem wt_ret (U g m:Nat)(w w2:zW)(ty:Ty)(hB:Blk w2 w.heap.size 73 [zI 0,.bool false,.bool false,.bool false])(hT:z4d w2 U g m)(hK:z49 [g] w w2)(hU:U<=w.heap.size)(u0 u1 u3 u4 u5 u6 u7 u8 u9 gF gG gH gI gJ gK gL:zV):
  bodyPost prog Tryz.f82 (WtPost w U g m) .ret ⟨#[u0,u1,.pointer (some ⟨w.heap.size,0,none⟩),u3,u4,u5,u6,u7,u8,u9,gF,gG,gH,gI,gJ,gK,gL],[]⟩ ((((w2.setCell ⟨w.heap.size,0,none⟩ (zI ty.base)).setCell ⟨w.heap.size,1,none⟩ (.bool ty.k)).setCell ⟨w.heap.size,2,none⟩ (.bool ty.l)).setCell ⟨w.heap.size,3,none⟩ (.bool ty.x)):=by
 have hE:=(((hB.set_ 0 (zI ty.base)).set_ 1 (.bool ty.k)).set_ 2 (.bool ty.l)).set_ 3 (.bool ty.x);have hb:=(((((Zb w.heap.size w2).setCell (p:=⟨w.heap.size,0,none⟩) (by simp) (zI ty.base)).setCell (p:=⟨w.heap.size,1,none⟩) (by simp) (.bool ty.k)).setCell (p:=⟨w.heap.size,2,none⟩) (by simp) (.bool ty.l)).setCell (p:=⟨w.heap.size,3,none⟩) (by simp) (.bool ty.x))
 generalize (((w2.setCell ⟨w.heap.size,0,none⟩ (zI ty.base)).setCell ⟨w.heap.size,1,none⟩ (.bool ty.k)).setCell ⟨w.heap.size,2,none⟩ (.bool ty.l)).setCell ⟨w.heap.size,3,none⟩ (.bool ty.x)=W8 at hE hb |-;have e0:=hE.cell 0;have e1:=hE.cell 1;have e2:=hE.cell 2;have e3:=hE.cell 3;exact bodyPost_ret (v:=ty.val) (by simp [results,results82,go_sem,e0,e1,e2,e3,Ty.val]) rfl ⟨ty,rfl,hT.onto hU hb,hK.onto hb⟩
theorem zil (U g m:Nat)(w:zW)(hT:z4d w U g m)(hU:U<=w.heap.size)(hm:m<=100000):
  Calls prog 82 #[.pointer (some ⟨g,0,none⟩)] w (WtPost w U g (m+1)):=by
 have hg:=hT.lt;obtain⟨W1,hW1⟩:∃ W,W=(w.alloc (zC #[zI 0,.bool false,.bool false,.bool false] 73)).alloc (zC #[zI 1,.bool false,.bool false,.bool false,zI 2,.bool false,.bool false,.bool false,zI 1,.bool true,.bool false,.bool false,zI 2,.bool false,.bool false,.bool true,zI 3,.bool false,.bool false,.bool false] 73):=⟨_,rfl⟩;have hA:zB w W1:=by rw[hW1];exact (zR).alloc (by simp) _
 have hB0:Blk W1 w.heap.size 73 [zI 0,.bool false,.bool false,.bool false]:=by rw[hW1];exact (z0l w _ _).alloc _
 have hB1:Blk W1 (w.heap.size+1) 73 [zI 1,.bool false,.bool false,.bool false,zI 2,.bool false,.bool false,.bool false,zI 1,.bool true,.bool false,.bool false,zI 2,.bool false,.bool false,.bool true,zI 3,.bool false,.bool false,.bool false]:=by
  rw[hW1];have:=z0l (w.alloc (zC #[zI 0,.bool false,.bool false,.bool false] 73)) [zI 1,.bool false,.bool false,.bool false,zI 2,.bool false,.bool false,.bool false,zI 1,.bool true,.bool false,.bool false,zI 2,.bool false,.bool false,.bool true,zI 3,.bool false,.bool false,.bool false] 73;simp only[Zl] at this
  exact this
 have HN:=hd_ (z4e U g m 5 W1 (hT.kw hA) (by omega) (by omega))
 have HW:=hd_ hW1;have HB:=hd_ (Zi hB0 hB1);have HA:=hd_ (z49.kw (S:=[g]) hA);have HU:=hd_ hU;have HG:Hid (w.heap.size∉[g]/\w.heap.size+1∉[g]):=hd_ (by simp;omega)
 clear hT hA hW1 hB0 hB1 hU;go_enter func82,ntmps82;go_upto_region 2 with fail;rw[<- HW.out];go_wp2_with fail;refine HN.mono ?_;rintro e w2 ⟨k,rfl,hk,hT2,hK2⟩;dsimp only;have HX:Hid (Blk _ _ _ _):=hd_ (hK2.blk HB.1 HG.1);have hY:=hK2.blk HB.out.2 HG.out.2;obtain⟨y0,y1,y2,y3,y4,y5,y6,y7,y8,y9⟩:=(⟨hY.cell 0,hY.cell 1,hY.cell 2,hY.cell 3,hY.cell 4,hY.cell 5,hY.cell 6,hY.cell 7,hY.cell 8,hY.cell 9⟩:w2.cell? ⟨w.heap.size+1,0,none⟩=some (zI 1)/\w2.cell? ⟨w.heap.size+1,1,none⟩=some (.bool false)/\w2.cell? ⟨w.heap.size+1,2,none⟩=some (.bool false)/\w2.cell? ⟨w.heap.size+1,3,none⟩=some (.bool false)/\w2.cell? ⟨w.heap.size+1,4,none⟩=some (zI 2)/\w2.cell? ⟨w.heap.size+1,5,none⟩=some (.bool false)/\w2.cell? ⟨w.heap.size+1,6,none⟩=some (.bool false)/\w2.cell? ⟨w.heap.size+1,7,none⟩=some (.bool false)/\w2.cell? ⟨w.heap.size+1,8,none⟩=some (zI 1)/\w2.cell? ⟨w.heap.size+1,9,none⟩=some (.bool true));obtain⟨z0,z1,z2,z3,z4,z5,z6,z7,z8,z9⟩:=(⟨hY.cell 10,hY.cell 11,hY.cell 12,hY.cell 13,hY.cell 14,hY.cell 15,hY.cell 16,hY.cell 17,hY.cell 18,hY.cell 19⟩:w2.cell? ⟨w.heap.size+1,10,none⟩=some (.bool false)/\w2.cell? ⟨w.heap.size+1,11,none⟩=some (.bool false)/\w2.cell? ⟨w.heap.size+1,12,none⟩=some (zI 2)/\w2.cell? ⟨w.heap.size+1,13,none⟩=some (.bool false)/\w2.cell? ⟨w.heap.size+1,14,none⟩=some (.bool false)/\w2.cell? ⟨w.heap.size+1,15,none⟩=some (.bool true)/\w2.cell? ⟨w.heap.size+1,16,none⟩=some (zI 3)/\w2.cell? ⟨w.heap.size+1,17,none⟩=some (.bool false)/\w2.cell? ⟨w.heap.size+1,18,none⟩=some (.bool false)/\w2.cell? ⟨w.heap.size+1,19,none⟩=some (.bool false));obtain⟨x0,x1,x2,x3⟩:=(⟨HX.out.cell 0,HX.out.cell 1,HX.out.cell 2,HX.out.cell 3⟩:w2.cell? ⟨w.heap.size,0,none⟩=some (zI 0)/\w2.cell? ⟨w.heap.size,1,none⟩=some (.bool false)/\w2.cell? ⟨w.heap.size,2,none⟩=some (.bool false)/\w2.cell? ⟨w.heap.size,3,none⟩=some (.bool false));obtain⟨f0,f1,f2,f3⟩:=(⟨HX.out.frozen 0,HX.out.frozen 1,HX.out.frozen 2,HX.out.frozen 3⟩:w2.frozen? ⟨w.heap.size,0,none⟩=false/\w2.frozen? ⟨w.heap.size,1,none⟩=false/\w2.frozen? ⟨w.heap.size,2,none⟩=false/\w2.frozen? ⟨w.heap.size,3,none⟩=false)
 have h5:k=0\/k=1\/k=2\/k=3\/k=4:=by obtain⟨a,b,-⟩:=hk;have:=b (by omega);omega
 have HT2:=hd_ hT2;have HK2:=hd_ (HA.trans hK2);have HFI:=hd_ (fun ty=>wt_ret U g (m+1) w w2 ty HX HT2 HK2 HU);clear hk hT2 hK2 hY HN;rcases h5 with rfl | rfl | rfl | rfl | rfl
 ·go_wp2_with fail;exact HFI ⟨1,false,false,false⟩ _ _ _ _ _ _ _ _ _ _ _ _ _ _ _ _
 ·go_wp2_with fail;exact HFI ⟨2,false,false,false⟩ _ _ _ _ _ _ _ _ _ _ _ _ _ _ _ _
 ·go_wp2_with fail;exact HFI ⟨1,true,false,false⟩ _ _ _ _ _ _ _ _ _ _ _ _ _ _ _ _
 ·go_wp2_with fail;exact HFI ⟨2,false,false,true⟩ _ _ _ _ _ _ _ _ _ _ _ _ _ _ _ _
 ·go_wp2_with fail;exact HFI ⟨3,false,false,false⟩ _ _ _ _ _ _ _ _ _ _ _ _ _ _ _ _
def zj9 (w:zW)(base:Nat)(e:TypeId)(size:Nat)(v:zV)(n:Nat)(xs:List zV):Prop:=
  xs.length=n * size /\
  ((v=zL none 0 0/\n=0) \/
   ∃ g off cap cur,v=zL (some ⟨g,off,none⟩) n cap/\base<=g/\w.heap[g]? = some (.cells cur e (0,0))/\n<=cap/\cap<=maxLen/\off+cap * size<=cur.size/\(cur.toList.drop off).take (n * size)=xs)
section
variable {w w' : zW} {base : Nat} {e : TypeId} {size n : Nat} {v : zV} {xs : List zV}
theorem zj9.of_own (h:w.ownsRow base e size v n xs):zj9 w base e size v n xs:=by
  refine⟨h.1,?_⟩;rcases h.2 with h2 | ⟨g,cap,cur,e1,h3,h4,h5,h6,h7,h8⟩
  · exact .inl h2
  · exact .inr ⟨g,0,cap,cur,e1,h3,h4,h5,h6,by omega,by rw[List.drop_zero];exact h8⟩
theorem zj9.lt (h:zj9 w base e size v n xs):∀ k,v.ownBlock=some k->base<=k/\k<w.heap.size:=by
  intro k hk;rcases h.2 with⟨rfl,_⟩ | ⟨g,off,cap,cur,rfl,hb,hg,_⟩
  · cases hk
  · injection hk with hk
    subst hk;exact⟨hb,(ZC.1 hg).1⟩
theorem zj9.keepAt (h:zj9 w base e size v n xs)(hk:∀ x,v.ownBlock=some x->w'.heap[x]? = w.heap[x]?):zj9 w' base e size v n xs:=by
  refine⟨h.1,?_⟩;rcases h.2 with h2 | ⟨g,off,cap,cur,e1,h3,h4,h5⟩
  · exact .inl h2
  · exact .inr ⟨g,off,cap,cur,e1,h3,(hk g (by rw[e1];rfl)).trans h4,h5⟩
theorem zj9.kw (h:zj9 w base e size v n xs)(hb:zB w w'):zj9 w' base e size v n xs:=h.keepAt fun x hx=>hb.block x (h.lt x hx).2
theorem zj9.setCell (h:zj9 w base e size v n xs){p:Addr}(hne:v.ownBlock≠some p.block)(u:zV):zj9 (w.setCell p u) base e size v n xs:=
  h.keepAt fun x hx=>Ya w p u x fun e=>hne (by rw[hx,<- e])
theorem zj9.row (h:zj9 w base e size v n xs):Row w size v n xs:=by
  have hl:=h.1;rcases h.2 with⟨rfl,rfl⟩ | ⟨g,off,cap,cur,rfl,_,hg,hnc,hcm,hs,ht⟩
  · exact⟨none,0,rfl,Zd _,by simp [maxLen],hl,fun _=>rfl,fun h=>absurd h (by omega)⟩
  · refine⟨_,cap,rfl,hnc,hcm,hl,fun h=>(by cases h),fun _=>⟨_,rfl,(ZC.1 hg).1,fun j u hu=>?_⟩⟩
    rw[Addr.add_lit,cell_of_row w g _ cur e (0,0) hg];rw[<- ht,List.getElem?_take] at hu;split at hu
    · rw[List.getElem?_drop] at hu
      simpa using hu
    · cases hu
theorem zj9.tail {ad:Addr}{c:Nat}(h:zj9 w base e size (zL (some ad) (n+1) c) (n+1) xs):zj9 w base e size (zL (if c=1 then some ad else some ⟨ad.block,ad.off+size,none⟩) n (c - 1)) n (xs.drop size):=by
  obtain⟨hl,⟨h1,h2⟩ | ⟨g,off,cap,cur,e1,h3,h4,h5,h6,h7,h8⟩⟩:=h
  · omega
  injection e1 with e1 e2 e3
  injection e1 with e1
  subst e1 e3;have hm:(n+1) * size=n * size+size:=Nat.succ_mul n size;refine⟨by rw[Zu,hl,hm];omega,.inr ?_⟩
  by_cases hc:c=1
  · have hn:n=0:=by omega
    subst hn;rw[if_pos hc];refine⟨g,off,c - 1,cur,rfl,h3,h4,by omega,by omega,by rw[hc];omega,?_⟩
    rw[Nat.zero_mul,List.take_zero];refine (Zt ?_).symm;rw[Zu,hl];omega
  · rw[if_neg hc]
    have hcm:c * size=(c - 1) * size+size:=by
      have h9:c=(c - 1)+1:=by omega
      conv=>lhs;rw[h9,Nat.succ_mul]
    refine⟨g,off+size,c - 1,cur,rfl,h3,h4,by omega,by omega,by omega,?_⟩
    rw[<- h8,hm,<- List.drop_drop,List.drop_take,show n * size+size - size=n * size by omega]
theorem zja {P:Program}(w:zW)(t ty e:TypeId)(i:TypeInfo)(ht:P.underlying t=some (.slice e))(hi:P.info? e=some i)
    (g off sLen sCap:Nat) (cur:Array zV) (hg:w.heap[g]? = some (.cells cur e (0,0)))
    (a:Addr) (m c:Nat) (news:List zV) (hl:news.length=m * i.size) (hnews:∀ j u,news[j]? = some u->w.cell? (a.add j)=some u) (h1:∀ u∈news,u.oneCell'=true)
    (hroom:sLen+m<=sCap) (hfit:off+sLen * i.size+news.length<=cur.size):
    (Builtin.append_ #[t,t] ty #[zL (some ⟨g,off,none⟩) sLen sCap,zL (some a) m c]).run P w =
      .ok (zL (some ⟨g,off,none⟩) (sLen+m) sCap) (w.setRow g (cur.toList.take (off+sLen * i.size)++news++cur.toList.drop (off+sLen * i.size+news.length)).toArray):=by
  have hf:=run_firstCells_some (P:=P) w i.size m a m c news hl hnews;have hst:=run_storeCells_at P g (off+sLen * i.size) e news 0 cur w hg (by simpa using hfit) h1
  simp only[Nat.add_zero] at hst
  simp [Builtin.append_,run_underlying ht,sizeOf,typeInfo,hi,Builtin.lenOf,hroom,hf,Addr.add_lit,hst]
theorem zjb {P:Program}{W:zW}{t ty e:TypeId}{size bytes base:Nat}(he:z0e P t e size bytes){v:zV}{n:Nat}{xs:List zV}(hown:zj9 W base e size v n xs)
    {ad:Addr} {m c:Nat} {news:List zV} (hl:news.length=m * size) (hnews:∀ j u,news[j]? = some u->W.cell? (ad.add j)=some u) (h1:∀ u∈news,u.oneCell'=true) (hm:0<m) (hbytes:(n+m) * bytes<=140737488355328) (h63:n+m<=maxLen) (hbase:base<=W.heap.size):
    ∃ A' c' w',(Builtin.append_ #[t,t] ty #[v,zL (some ad) m c]).run P W=.ok (zL A' (n+m) c') w'/\zj9 w' base e size (zL A' (n+m) c') (n+m) (xs++news)/\W.grownBy w' v.ownBlock /\
      ((zL A' (n+m) c').ownBlock=v.ownBlock\/(zL A' (n+m) c').ownBlock=some W.heap.size):=by
  rcases hown.2 with⟨rfl,rfl⟩ | ⟨g,off,cap,cur,rfl,hbg,hg,hnc,hcm,hcs,htake⟩
  · have ho:W.ownsRow base e size (zL none 0 0) 0 xs:=⟨hown.1,.inl ⟨rfl,rfl⟩⟩
    obtain⟨i,z,ht,hi,hz,hsize,hby,hzs,hsz⟩:=he;obtain⟨v',w',hr,h2,h3,h4,h5⟩:=run_append_own_at (P:=P) W base t ty e i z size bytes ht hi hz hsize hby hzs hsz _ 0 xs ho ad m c news hl hnews h1 h63 hbytes hbase;rcases h2.2 with⟨e1,e2⟩ | ⟨g,cap,cur,e1,_⟩
    · omega
    · subst e1
      exact⟨_,_,w',hr,zj9.of_own h2,h3,h5⟩
  · obtain⟨i,z,ht,hi,hz,hsize,hby,hzs,hsz⟩:=he
    subst hsize;subst hby;have hsmall:n+m<=9223372036854775807:=by simp only[maxLen] at h63;omega
    have hlen:(xs++news).length=(n+m) * i.size:=by rw[Zc,hown.1,hl,Nat.add_mul]
    by_cases hroom:n+m<=cap
    · have hmul:(n+m) * i.size<=cap * i.size:=Ye _ hroom
      rw[Nat.add_mul] at hmul;have hfit:off+n * i.size+news.length<=cur.size:=by omega
      have hr:=zja (P:=P) W t ty e i ht hi g off n cap cur hg ad m c news hl hnews h1 hroom hfit;refine⟨_,_,_,hr,⟨hlen,.inr ⟨g,off,cap,_,rfl,hbg,setRow_heap W g cur _ e _ hg,hroom,hcm,?_,?_⟩⟩,⟨rfl,rfl,rfl,by simp,fun k _ hk=>setRow_other W g k _ (fun e=>hk (by simp [Value.ownBlock,e]))⟩,Or.inl rfl⟩
      · simp only[List.size_toArray,Zc,ZK,Zu,Array.length_toList]
        omega
      · have hx:cur.toList.take (off+n * i.size)=cur.toList.take off++xs:=by rw[List.take_add,htake]
        show ((cur.toList.take (off+n * i.size)++news++cur.toList.drop (off+n * i.size+news.length)).drop off).take ((n+m) * i.size)=xs++news
        rw[hx,ZE,ZE,List.drop_left' (by rw[ZK,Array.length_toList];omega),<- ZE,<- hlen]
        exact List.take_left
    · have hfit:Builtin.nextslicecap (n+m) cap * i.bytes<=281474976710656:=growslice_fits (by omega) hbytes
      have holds:∀ j u,xs[j]? = some u->W.cell? ((⟨g,off,none⟩:Addr).add j)=some u:=by
        obtain⟨A',c',e1,-,-,-,-,h9⟩:=hown.row;injection e1 with e1
        intro j u hj;rcases ZU n with h0 | h0
        · have hx:xs=[]:=Zt (by rw[hown.1,h0];simp)
          rw[hx] at hj;simp at hj
        · obtain⟨ad',e2,-,h10⟩:=h9 h0
          rw[<- e1] at e2;injection e2 with e2
          subst e2;exact h10 j u hj
      have hr:=run_append_grow (P:=P) W t ty e i z ht hi hz ⟨g,off,none⟩ n cap xs hown.1 holds ad m c news hl hnews (by omega) (by omega) hfit
      have hge:=grownCap_ge W (n+m) cap e;have hcm:=grownCap_le_maxLen W (n+m) cap e h63;refine⟨_,_,_,hr,⟨hlen,.inr ⟨W.heap.size,0,_,_,rfl,hbase,heap_alloc_new W.drew _,hge,hcm,?_,?_⟩⟩,⟨rfl,rfl,rfl,by simp,fun k hk _=>heap_alloc_old W.drew _ hk⟩,Or.inr rfl⟩
      · simp only[Array.size_append,List.size_toArray,size_zeroCells,hzs,hown.1,hl,<- Nat.add_mul]
        refine Nat.le_of_eq ?_;rw[ZV];congr 1
        omega
      · rw[List.drop_zero]
        simp only[Array.toList_append,ZE]
        rw[<- ZE,<- hlen];exact List.take_left
end
def zjc (b:UInt8):zV:=.int .u8 b.toNat
def zjd (w:zW)(base:Nat)(v:zV)(n:Nat):Prop:=∃ g cap cur fz,v=zL (some ⟨g,0,none⟩) n cap/\base<=g/\w.heap[g]? = some (.cells cur 5 fz)/\(∀ o,o<cur.size->¬(fz.1<=o/\o<fz.2))/\n<=cap/\cap<=maxLen/\cur.size=cap/\∃ bs:List UInt8,bs.length=n/\cur.toList.take n=bs.map zjc
theorem zje:z0e prog 204 5 1 1:=z0f underlying204 (z:=.int .u8 0) (by kernel_rfl) rfl (by decide)
section
variable {w w' : zW} {base n : Nat} {v : zV}
theorem zjd.row (h:zjd w base v n):∃ l:List UInt8,l.length=n/\Bytes w v l:=by
 obtain⟨g,cap,cur,fz,rfl,hb,hg,hf,hn,hc,hs,bs,rfl,ht⟩:=h;refine⟨bs,rfl,_,cap,rfl,hn,hc,by simp,fun h=>(by cases h),fun _=>⟨_,rfl,(ZC.1 hg).1,fun j u hu=>?_⟩⟩
 rw[Addr.add_lit,cell_of_row w g _ cur _ fz hg];have hu2:(bs.map zjc)[j]? = some u:=hu;rw[<- ht,List.getElem?_take] at hu2;split at hu2
 ·simpa using hu2
 ·cases hu2
theorem zjd.keepAt (h:zjd w base v n)(hk:∀ x,base<=x->x<w.heap.size->v.ownBlock=some x->w'.heap[x]? = w.heap[x]?):zjd w' base v n:=by
 obtain⟨g,cap,cur,fz,rfl,hb,hg,h⟩:=h;exact⟨g,cap,cur,fz,rfl,hb,(hk g hb (ZC.1 hg).1 rfl).trans hg,h⟩
theorem zjd.lt (h:zjd w base v n):∀ x,v.ownBlock=some x->base<=x/\x<w.heap.size:=by
 obtain⟨g,cap,cur,fz,rfl,hb,hg,-⟩:=h;intro x hx;injection hx with hx
 subst hx;exact⟨hb,(ZC.1 hg).1⟩
theorem zjf (P:Program)(g o:Nat)(t:TypeId)(fz:Nat×Nat)(u:zV)(cur:Array zV)(w:zW)(hg:w.heap[g]? = some (.cells cur t fz))(hfz:¬(fz.1<=o/\o<fz.2))(ho:o<cur.size)(h1:u.oneCell'=true):
  (storeCells ⟨g,o,none⟩ [u] 0).run P w=.ok () (w.setRow g (cur.setIfInBounds o u)):=by
 have hadd:(⟨g,o,none⟩:Addr).add 0=⟨g,o,none⟩:=by unfold Addr.add;simp
 have hcell:w.cell? ⟨g,o,none⟩=some cur[o]:=by simp [World.cell?,hg,ho]
 have hfro:w.frozen? ⟨g,o,none⟩=false:=by
  obtain⟨lo,hi'⟩:=fz;simp only[World.frozen?,hg,Bool.and_eq_false_iff,decide_eq_false_iff_not]
  simp only at hfz
  omega
 have hst:(store ((⟨g,o,none⟩:Addr).add 0) u).run P w=.ok () (w.setRow g (cur.setIfInBounds o u)):=by
  rw[hadd,run_store P w _ u _ h1,hcell];simp [hfro,setCell_eq_setRow w g o cur t fz u hg]
 simp only[storeCells,Sem.run_bind,hst,Result.andThen_ok]
 rfl
theorem zjg (ty:TypeId)(hown:zjd w base v n){ad:Addr}{c:Nat}(x:UInt8)(hx:w.cell? ad=some (zjc x))(hn:n<=1000000)(hbase:base<=w.heap.size):
  ∃ A' c' w',(Builtin.append_ #[204,204] ty #[v,zL (some ad) 1 c]).run prog w=.ok (zL A' (n+1) c') w'/\zjd w' base (zL A' (n+1) c') (n+1)/\w.grownBy w' v.ownBlock:=by
 obtain⟨g,cap,cur,fz,rfl,hb,hg,hf,hnc,hc,hs,bs,hbl,ht⟩:=hown;obtain⟨i,z,hti,hi,hz,hsize,hby,hzs,hsz⟩:=zje;have hnews:∀(j:Nat) u,[zjc x][j]? = some u->w.cell? (ad.add j)=some u:=by
  intro j u hj;cases j with
  | zero =>
   have e:zjc x=u:=by simpa using hj
   have e2:ad.add 0=ad:=by unfold Addr.add;simp
   rw[<- e,e2];exact hx
  | succ j=>simp at hj
 have hf1:=run_firstCells_some (P:=prog) w i.size 1 ad 1 c [zjc x] (by rw[hsize];rfl) hnews
 rw[hsize] at hf1;have hone:(zjc x).oneCell'=true:=rfl;by_cases hroom:n+1<=cap
 ·have hst:=zjf prog g n 5 fz (zjc x) cur w hg (hf n (by omega)) (by omega) hone
  have hr:(Builtin.append_ #[204,204] ty #[zL (some ⟨g,0,none⟩) n cap,zL (some ad) 1 c]).run prog w=.ok (zL (some ⟨g,0,none⟩) (n+1) cap) (w.setRow g (cur.setIfInBounds n (zjc x))):=by
   simp [Builtin.append_,run_underlying hti,sizeOf,typeInfo,hi,Builtin.lenOf,hroom,hf1,Addr.add_lit,hsize,hst]
  refine⟨_,_,_,hr,⟨g,cap,_,fz,rfl,hb,setRow_heap w g cur _ _ _ hg,by simpa using hf,hroom,hc,by simpa using hs,bs++[x],by simp [hbl],?_⟩,⟨rfl,rfl,rfl,by simp,fun k _ hk=>setRow_other w g k _ (fun e=>hk (by simp [Value.ownBlock,e]))⟩⟩
  have hl:n<cur.toList.length:=by simpa using (show n<cur.size by omega)
  rw[Array.toList_setIfInBounds,List.set_eq_take_append_cons_drop,if_pos hl,Zs,<- ht,List.take_append,ZK,Nat.min_eq_left (Nat.le_of_lt hl),ZQ (by rw[ZK];omega),show n+1 - n=1 by omega]
  rfl
 ·have holds:∀ j u,(bs.map zjc)[j]? = some u->w.cell? ((⟨g,0,none⟩:Addr).add j)=some u:=by
   intro j u hj;rw[Addr.add_lit,cell_of_row w g _ cur _ fz hg];rw[<- ht,List.getElem?_take] at hj;split at hj
   ·simpa using hj
   ·cases hj
  have hr:=run_append_grow (P:=prog) w 204 ty 5 i z hti hi hz ⟨g,0,none⟩ n cap (bs.map zjc) (by rw[hsize];simp [hbl]) holds ad 1 c [zjc x] (by rw[hsize];rfl) hnews (by omega) (by omega) (growslice_fits (by omega) (by rw[hby];omega))
  have hge:=grownCap_ge w (n+1) cap 5;have hcm:=grownCap_le_maxLen w (n+1) cap 5 (by unfold maxLen;omega)
  refine⟨_,_,_,hr,⟨w.heap.size,_,_,(0,0),rfl,hbase,heap_alloc_new w.drew _,fun o _ h=>by omega,hge,hcm,?_,bs++[x],by simp [hbl],?_⟩,⟨rfl,rfl,rfl,by simp,fun k hk _=>heap_alloc_old w.drew _ hk⟩⟩
  ·simp only[Array.size_append,List.size_toArray,size_zeroCells,hzs,Zc,Zk,hbl,Zz,List.length_nil]
   omega
  ·have e:n+1=(bs.map zjc++[zjc x]).length:=by simp [hbl]
   simp only[Array.toList_append]
   rw[Zs,show List.map zjc [x]=[zjc x] from rfl];conv=>lhs;arg 1;rw[e]
   exact List.take_left
end
theorem zjh (w:zW)(s:zA)(hs:s.size<=1000000):zjd (z21 w s 5) w.heap.size (zL (some (cvtA w)) s.size (z0c w s 5)) s.size:=by
 have h1:=grownCap_ge w s.size 0 5;have h2:=grownCap_le_maxLen w s.size 0 5 (by unfold maxLen;omega)
 have h3:s.data.toList.length=s.size:=rfl;have hz:(bytesRow s (z0c w s 5)).size=z0c w s 5:=by
  unfold bytesRow z0c;simp only[Array.size_append,Array.size_map,Array.size_replicate]
  have:s.data.size=s.size:=rfl;omega
 refine⟨w.heap.size,_,_,_,rfl,Zd _,heap_alloc_new w.drew _,fun o ho h=>?_,h1,h2,hz,s.data.toList,rfl,?_⟩
 ·have:=h.1;omega
 ·unfold bytesRow;rw[Array.toList_append,List.take_append_of_le_length (by simp),Array.toList_map,ZQ (by simp)]
  rfl
theorem zji {w:zW}{base n:Nat}{v:zV}{ops:Array Oper}{rest:List Oper}{o:Oper}{a:Act}{Q:Exit->Act->zW->Prop}(hgd:o.guard=none){s y:Operand}
  (ho:o.op=.call { callee:=.builtin .append,args:=#[s,y],argTypes:=#[204,204] }) (hown:zjd w base v n) (hs:a.eval s=v)
  {ad:Addr} {c:Nat} (hy:a.eval y=zL (some ad) 1 c) {k:Int} (hk:0<=k/\k<256) (hx:w.cell? ad=some (.int .u8 k)) (hn:n<=1000000) (hbase:base<=w.heap.size)
  (h:∀ A' c' w',zjd w' base (zL A' (n+1) c') (n+1)->w.grownBy w' v.ownBlock->wpList prog ops Q rest (a.put o.dst (zL A' (n+1) c')) w'):wpList prog ops Q (o :: rest) a w:=by
 have e:Value.int .u8 k=zjc (UInt8.ofNat k.toNat):=by
  unfold zjc;congr 1
  have:k.toNat<256:=by omega
  simp [UInt8.toNat_ofNat',Nat.mod_eq_of_lt this]
  omega
 rw[e] at hx;obtain⟨A',c',w',hrun,h2,h3⟩:=zjg o.type hown (UInt8.ofNat k.toNat) hx hn hbase;refine wpList_plain hgd fun K hK=>?_;unfold Oper.wp execOp;simp only[ho,resolve,invoke,builtin,Sem.run_bind,Sem.run_pure,Result.andThen_ok,List.map_toArray,ZN,List.map_nil,hs,hy]
 rw[hrun];exact hK _ _ (h A' c' w' h2 h3)
def zou:List Hav->zA->Nat×Bool
 | [],_=>(0,false)
 | x :: l,p=>if x.kt=p then (0,true) else if 0<z30 x.kt p then (0,false) else ((zou l p).1+1,(zou l p).2)
def zov (l:List Hav)(h:Hav):List Hav:=l.take (zou l h.kt).1++h :: l.drop ((zou l h.kt).1+if (zou l h.kt).2 then 1 else 0)
theorem zow:∀(l:List Hav) (p:zA),(zou l p).1<=l.length/\((zou l p).2=true->(zou l p).1<l.length)
 | [],_=>⟨Zd _,fun h=>by cases h⟩
 | x :: l,p=>by
  obtain⟨h1,h2⟩:=zow l p;unfold zou;split
  ·exact⟨Zg _,fun _=>Nat.succ_pos _⟩
  ·split
   ·exact⟨Zg _,fun h=>by cases h⟩
   ·exact⟨Nat.succ_le_succ h1,fun h=>Nat.succ_lt_succ (h2 h)⟩
theorem zox {p:zA}:∀ {l:List Hav} {k:Nat} (hk:k<l.length),(∀ j (hj:j<l.length),j<k->l[j].kt≠p/\¬ 0<z30 l[j].kt p) ->
  (l[k].kt=p->zou l p=(k,true))/\(l[k].kt≠p->0<z30 l[k].kt p->zou l p=(k,false))
 | [],k,hk,_=>absurd hk (by simp)
 | x :: l,0,_,_=>by
  refine⟨fun e=>?_,fun e h=>?_⟩
  ·unfold zou;rw[if_pos (show x.kt=p from e)]
  ·unfold zou;rw[if_neg (show ¬ x.kt=p from e),if_pos (show 0<z30 x.kt p from h)]
 | x :: l,k+1,hk,h=>by
  obtain⟨h1,h2⟩:=h 0 (Nat.succ_pos _) (Nat.succ_pos _);have h1':¬ x.kt=p:=h1;have h2':¬ 0<z30 x.kt p:=h2;obtain⟨i1,i2⟩:=zox (l:=l) (k:=k) (by simpa using hk) fun j hj hjk=>h (j+1) (by simpa using hj) (by omega)
  rw[List.getElem_cons_succ];refine⟨fun e=>?_,fun e h=>?_⟩
  ·unfold zou;rw[if_neg h1',if_neg h2',i1 e]
  ·unfold zou;rw[if_neg h1',if_neg h2',i2 e h]
theorem zoy {p:zA}:∀ {l:List Hav},(∀ j (hj:j<l.length),l[j].kt≠p/\¬ 0<z30 l[j].kt p)->zou l p=(l.length,false)
 | [],_=>rfl
 | x :: l,h=>by
  obtain⟨h1,h2⟩:=h 0 (Nat.succ_pos _);have h1':¬ x.kt=p:=h1;have h2':¬ 0<z30 x.kt p:=h2;have i:=zoy (l:=l) (p:=p) fun j hj=>h (j+1) (by simpa using hj)
  unfold zou;rw[if_neg h1',if_neg h2',i];rfl
theorem zoz (x:Hav)(l:List Hav)(h:Hav):zov (x :: l) h=if x.kt=h.kt then h :: l else if 0<z30 x.kt h.kt then h :: x :: l else x :: zov l h:=by
 unfold zov;rw[zou];by_cases h1:x.kt=h.kt
 ·rw[if_pos h1,if_pos h1];rfl
 ·rw[if_neg h1,if_neg h1];by_cases h2:0<z30 x.kt h.kt
  ·rw[if_pos h2,if_pos h2];rfl
  ·rw[if_neg h2,if_neg h2];show x :: (l.take _++h :: (x :: l).drop _)=_
   rw[show (zou l h.kt).1+1+(if (zou l h.kt).2=true then 1 else 0)=(zou l h.kt).1+(if (zou l h.kt).2=true then 1 else 0)+1 by omega,List.drop_succ_cons]
theorem zp0:∀(l:List Hav) (h x:Hav),x∈zov l h->x=h\/x∈l
 | [],h,x,hx=>by
  have hx':x∈[h]:=hx;exact .inl (Zm.1 hx')
 | y :: l,h,x,hx=>by
  rw[zoz] at hx;split at hx
  ·rcases Zn.1 hx with e | e
   ·exact .inl e
   ·exact .inr (Zh _ e)
  ·split at hx
   ·rcases Zn.1 hx with e | e
    ·exact .inl e
    ·exact .inr e
   ·rcases Zn.1 hx with e | e
    ·exact .inr (by rw[e];exact Zj ..)
    ·rcases zp0 l h x e with e | e
     ·exact .inl e
     ·exact .inr (Zh _ e)
theorem zp1:∀(l:List Hav) (h:Hav),z7h l->(∀ x∈l,z2y x.kt=true)->z2y h.kt=true->z7h (zov l h)/\∀ p,z7j (zov l h) p=if p=h.kt then some h else z7j l p
 | [],h,_,_,_=>by
  refine⟨List.pairwise_singleton _ _,fun p=>?_⟩;show z73 Hav.kt [h] p=_
  rw[z7a];by_cases e:p=h.kt
  ·rw[if_pos e.symm,if_pos e]
  ·rw[if_neg (fun e2=>e e2.symm),if_neg e]
 | x :: l,h,hs,hv,hh=>by
  have hvx:=hv x (Zj ..);rw[zoz];by_cases h1:x.kt=h.kt
  ·rw[if_pos h1];refine⟨ZP.2 ⟨fun b hb=>?_,hs.tail⟩,fun p=>?_⟩
   ·rw[<- h1];exact hs.head b hb
   ·show z73 Hav.kt (h :: l) p=if p=h.kt then some h else z73 Hav.kt (x :: l) p
    rw[z7a,z7a,h1];by_cases e:p=h.kt
    ·rw[if_pos e.symm,if_pos e]
    ·rw[if_neg (fun e2=>e e2.symm),if_neg e,if_neg (fun e2=>e e2.symm)]
  ·rw[if_neg h1];by_cases h2:0<z30 x.kt h.kt
   ·rw[if_pos h2];have h3:z30 h.kt x.kt<0:=by rw[z6t];omega
    refine⟨ZP.2 ⟨fun b hb=>?_,hs⟩,fun p=>?_⟩
    ·rcases Zn.1 hb with e | e
     ·rw[e];exact h3
     ·exact z6r hh hvx (hv b (Zh _ e)) h3 (hs.head b e)
    ·show z73 Hav.kt (h :: x :: l) p=_
     rw[z7a];by_cases e:p=h.kt
     ·rw[if_pos e.symm,if_pos e]
     ·rw[if_neg (fun e2=>e e2.symm),if_neg e]
   ·rw[if_neg h2];have h3:z30 x.kt h.kt<0:=by
     rcases Int.lt_or_le (z30 x.kt h.kt) 0 with h | h
     ·exact h
     ·exact absurd (z7q hvx hh (by omega) h2) h1
    obtain⟨i1,i2⟩:=zp1 l h hs.tail (fun y hy=>hv y (Zh _ hy)) hh;refine⟨ZP.2 ⟨fun b hb=>?_,i1⟩,fun p=>?_⟩
    ·rcases zp0 l h b hb with e | e
     ·rw[e];exact h3
     ·exact hs.head b e
    ·show z73 Hav.kt (x :: zov l h) p=if p=h.kt then some h else z73 Hav.kt (x :: l) p
     rw[z7a,z7a];have i2':=i2 p;by_cases e:x.kt=p
     ·rw[if_pos e,if_pos e,if_neg (fun e2=>h1 (e.trans e2))]
     ·rw[if_neg e,if_neg e];exact i2'
def zp2 (D:List Rev)(f:zA->Option zA)(m:Int)(k:Nat)(out:List Hav):Prop:=
 z7h out/\(∀ x∈out,x.kt∈z8e)/\(∀ x∈out,z8i D f m x.kt=some x)/\∀(j:Nat) (hj:j<D.length),j<k->∀ h,z8i D f m D[j].kt=some h->h∈out
theorem refW_0 (D:List Rev)(f:zA->Option zA)(m:Int):zp2 D f m 0 []:=⟨List.Pairwise.nil,(fun x h=>by cases h),(fun x h=>by cases h),fun j _ h=>by omega⟩
theorem zp3 {D:List Rev}{f:zA->Option zA}{m:Int}{k:Nat}{out:List Hav}(h:zp2 D f m k out)(hk:k<D.length)(e:z8i D f m D[k].kt=none):zp2 D f m (k+1) out:=
 ⟨h.1,h.2.1,h.2.2.1,fun j hj hjk x hx=>by
  by_cases ej:j=k
  ·subst ej;rw[e] at hx;cases hx
  ·exact h.2.2.2 j hj (by omega) x hx⟩
theorem zp4 {p:zA}(h:p∈z8e):z2y p=true:=(z83 (z8g p h)).1
theorem zp5 {D:List Rev}{f:zA->Option zA}{m:Int}{k:Nat}{out:List Hav}{x:Hav}(h:zp2 D f m k out)(hk:k<D.length)(h6:∀ r∈D,r.kt∈z8e)(e:z8i D f m D[k].kt=some x):zp2 D f m (k+1) (zov out x):=by
 obtain⟨h1,h2,h3,h4⟩:=h;have hxp:x.kt=D[k].kt:=(z8l e).1;have hx6:x.kt∈z8e:=by rw[hxp];exact h6 _ (Za hk)
 obtain⟨i1,i2⟩:=zp1 out x h1 (fun y hy=>zp4 (h2 y hy)) (zp4 hx6);have hmem:∀ y,y∈zov out x↔y=x\/(y∈out/\y.kt≠x.kt):=by
  intro y;constructor
  ·intro hy;have hg:=z7b i1 hy;have hg':z7j (zov out x) y.kt=some y:=hg;rw[i2] at hg';by_cases ey:y.kt=x.kt
   ·rw[if_pos ey] at hg';exact .inl (Option.some.inj hg').symm
   ·rw[if_neg ey] at hg';exact .inr ⟨(z78 hg').1,ey⟩
  ·rintro (rfl | ⟨hy,ey⟩)
   ·have:=i2 y.kt;rw[if_pos rfl] at this;exact (z78 this).1
   ·have:=i2 y.kt;rw[if_neg ey] at this;have hg:z7j out y.kt=some y:=z7b h1 hy;rw[hg] at this;exact (z78 this).1
 refine⟨i1,fun y hy=>?_,fun y hy=>?_,fun j hj hjk y hy=>?_⟩
 ·rcases (hmem y).1 hy with rfl | ⟨a,_⟩
  ·exact hx6
  ·exact h2 y a
 ·rcases (hmem y).1 hy with rfl | ⟨a,_⟩
  ·rw[hxp];exact e
  ·exact h3 y a
 ·by_cases ep:D[j].kt=D[k].kt
  ·rw[ep,e] at hy;exact (hmem y).2 (.inl (Option.some.inj hy).symm)
  ·have hjk2:j≠k:=fun ee=>ep (by subst ee;rfl)
   have hy2:=h4 j hj (by omega) y hy
   refine (hmem y).2 (.inr ⟨hy2,?_⟩);rw[(z8l hy).1,hxp];exact ep
theorem zp7 {D:List Rev}{f:zA->Option zA}{m:Int}{k:Nat}{out:List Hav}(h:zp2 D f m k out):out.length<=6:=by
 have e:out.map Hav.kt=z8e.filter (fun p=>decide (p∈out.map Hav.kt)):=z7c (z7e (kb:=fun q:zA=>q) h.1 fun _=>rfl) (z7g z8f _) fun a=>by
  rw[List.mem_filter,decide_eq_true_eq];refine⟨fun ha=>⟨?_,ha⟩,fun ha=>ha.2⟩;obtain⟨x,hx,rfl⟩:=ZD.1 ha;exact h.2.1 x hx
 have h1:=congrArg List.length e;rw[Zk] at h1;rw[h1];exact Zf (ZS _ _) (by decide)
