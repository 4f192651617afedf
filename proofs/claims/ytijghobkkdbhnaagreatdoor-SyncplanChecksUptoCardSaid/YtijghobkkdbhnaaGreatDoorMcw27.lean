/- A part. -/
import Derived.Test.YtijghobkkdbhnaaGreatDoorMcw25
import Derived.Test.YtijghobkkdbhnaaGreatDoorMcw23
set_option linter.unusedVariables false
set_option linter.unusedSimpArgs false
set_option maxHeartbeats 8000000
set_option maxRecDepth 100000
namespace Go.Proofs.YtijghobkkdbhnaaGreatDoor
open Go.Proofs.Tryz
open Go.RowKit
section
variable {u0 u1 u2 u3 u4 u5 u6 u7 u8 u9 gA gC gD gE gF gG gH gI gJ gK gL gM gN gO gP gQ gR gT gV gW gX gY gZ i6 i7 i8 ia ib ic ie ig : Value}
theorem zkq:z0e prog 69 68 2 32:=z0f underlying69 (z:=.agg #[.slice none 0 0,.bool false]) (by kernel_rfl) rfl (by decide)
theorem rule0 {W:World}{g:Nat}{v0 v1 v2 v3 v4:Value}(h:Blk W g 74 [v0,v1,v2,v3,v4]):(W.cell? ⟨g,0,none⟩=some v0∧W.cell? ⟨g,1,none⟩=some v1∧W.cell? ⟨g,2,none⟩=some v2∧W.cell? ⟨g,3,none⟩=some v3∧W.cell? ⟨g,4,none⟩=some v4)∧W.frozen? ⟨g,0,none⟩=false∧W.frozen? ⟨g,1,none⟩=false∧W.frozen? ⟨g,2,none⟩=false∧W.frozen? ⟨g,3,none⟩=false∧W.frozen? ⟨g,4,none⟩=false:=
 ⟨⟨h.cell 0,h.cell 1,h.cell 2,h.cell 3,h.cell 4⟩,h.frozen 0,h.frozen 1,h.frozen 2,h.frozen 3,h.frozen 4⟩
theorem zkr {V1 w5 w6:World}(hX5:Below (V1.alloc (.cells #[.bool false,.slice none 0 0,.bool false,.slice none 0 0,.bool false] 74)).drew.heap.size (V1.alloc (.cells #[.bool false,.slice none 0 0,.bool false,.slice none 0 0,.bool false] 74)).drew w5)(hX6:zB w5 w6):Blk w6 V1.heap.size 74 [.bool false,.slice none 0 0,.bool false,.slice none 0 0,.bool false]:=by
 have h0:Blk (V1.alloc (.cells #[.bool false,.slice none 0 0,.bool false,.slice none 0 0,.bool false] 74)).drew V1.heap.size 74 [.bool false,.slice none 0 0,.bool false,.slice none 0 0,.bool false]:=z0l V1 _ _;have h1:=Blk.below h0 hX5 (Blk.lt h0);exact Blk.below h1 hX6 (Blk.lt h1)
theorem rt_end {V1 w6:World}{g:Nat}{v0 v1 v2 v3 v4:Value}(hb:zB V1 w6)(hB:Blk w6 g 74 [v0,v1,v2,v3,v4])(hg:V1.heap.size≤g)(u0 u1 u2 u3 u4:Value):
  zB V1 (((((w6.setCell ⟨g,0,none⟩ u0).setCell ⟨g,1,none⟩ u1).setCell ⟨g,2,none⟩ u2).setCell ⟨g,3,none⟩ u3).setCell ⟨g,4,none⟩ u4)∧(((((w6.setCell ⟨g,0,none⟩ u0).setCell ⟨g,1,none⟩ u1).setCell ⟨g,2,none⟩ u2).setCell ⟨g,3,none⟩ u3).setCell ⟨g,4,none⟩ u4).cell? ⟨g,3,none⟩=some u3∧(((((w6.setCell ⟨g,0,none⟩ u0).setCell ⟨g,1,none⟩ u1).setCell ⟨g,2,none⟩ u2).setCell ⟨g,3,none⟩ u3).setCell ⟨g,4,none⟩ u4).cell? ⟨g,4,none⟩=some u4:=by
 have hE:=((((hB.set_ 0 u0).set_ 1 u1).set_ 2 u2).set_ 3 u3).set_ 4 u4;exact⟨((((hb.setCell (p:=⟨g,0,none⟩) hg u0).setCell (p:=⟨g,1,none⟩) hg u1).setCell (p:=⟨g,2,none⟩) hg u2).setCell (p:=⟨g,3,none⟩) hg u3).setCell (p:=⟨g,4,none⟩) hg u4,hE.cell 3,hE.cell 4⟩
end
theorem neq_hav (x:Hav)(W:World):(binOp .neq 96 (.agg #[.string x.path,.int .i64 x.num,.string x.loc]) (.agg #[.string x.path,.int .i64 x.num,.string x.loc])).run prog W=.ok (.bool false) W:=by
 rw[run_neq_struct,run_equalIn_agg W 9999 96 _ _ (by kernel_rfl) (by kernel_rfl)]
 simp [go_sem,Op.eqFields]
theorem neq_syn (x:Syn)(W:World):(binOp .neq 50 (.agg #[.int .i64 x.kind,.string x.path,.int .i64 x.num,.string x.frm,.string x.dst]) (.agg #[.int .i64 x.kind,.string x.path,.int .i64 x.num,.string x.frm,.string x.dst])).run prog W=.ok (.bool false) W:=by
 rw[run_neq_struct,run_equalIn_agg W 9999 50 _ _ (by kernel_rfl) (by kernel_rfl)]
 simp [go_sem,Op.eqFields]
theorem zmp (L:List Hav)(v u:Value)(w:World)(h1:z4h w v L)(h2:z4h w u L):
  Calls prog 11 #[v,u] w fun e w'=>e=.returned (.bool true)∧zB w w':=by
 obtain⟨A1,c1,rfl,-,hmm,-⟩:=id h1;obtain⟨A2,c2,rfl,-⟩:=id h2;unfold maxLen at hmm;have hml:L.length≤9223372036854775807:=by obtain⟨A',c',e,h,-⟩:=id h1;injection e;omega
 have H1:=hd_ h1;have H2:=hd_ h2;clear h1 h2;have q0:((L.length:Int) != (L.length:Int))=false:=by simp
 go_enter func11,ntmps11;go_wp2_with fail;clear q0;go_loopw [5] (fun s wr=>∃ k:Nat,s=.int .i64 k∧k≤L.length∧Hid (zB w wr)) (fun s _=>L.length - (intOf s).toNat)
 case atStart=>exact⟨0,rfl,Nat.zero_le _,Below.refl _ _⟩
 case round =>
  obtain⟨k,rfl,hk,HI⟩:=hrel;by_cases hlt:k<L.length
  ·obtain⟨a1,rfl,hb1,hx⟩:=z4h.at_ (Row.below H1.out HI.out) hlt;obtain⟨a2,rfl,hb2,hy⟩:=z4h.at_ (Row.below H2.out HI.out) hlt;have hz1:(k:Int)<(L.length:Int):=by omega
   generalize L[k]=r at hx hy;obtain⟨x0,x1,x2⟩:=hx;obtain⟨y0,y1,y2⟩:=hy;have hne:=neq_hav r;go_upto_region 6 with fail;go_quiet (fail)
   clear x0 x1 x2 y0 y1 y2 hne;go_wp2_with fail;go_roundw
   case rel=>exact⟨k+1,by go_num,by omega,z0p HI.out _⟩
   case measure=>simp [intOf];omega
  ·have HB:=hd_ HI.out;have hge:¬((k:Int)<(L.length:Int)):=by omega
   go_wp2_with fail;go_ret;exact⟨rfl,HB.out⟩
theorem zmq (L:List Syn)(v u:Value)(w:World)(h1:z57 w v L)(h2:z57 w u L):
  Calls prog 14 #[v,u] w fun e w'=>e=.returned (.bool true)∧zB w w':=by
 obtain⟨A1,c1,rfl,-,hmm,-⟩:=id h1;obtain⟨A2,c2,rfl,-⟩:=id h2;unfold maxLen at hmm;have hml:L.length≤9223372036854775807:=by obtain⟨A',c',e,h,-⟩:=id h1;injection e;omega
 have H1:=hd_ h1;have H2:=hd_ h2;clear h1 h2;have q0:((L.length:Int) != (L.length:Int))=false:=by simp
 go_enter func14,ntmps14;go_wp2_with fail;clear q0;go_loopw [5] (fun s wr=>∃ k:Nat,s=.int .i64 k∧k≤L.length∧Hid (zB w wr)) (fun s _=>L.length - (intOf s).toNat)
 case atStart=>exact⟨0,rfl,Nat.zero_le _,Below.refl _ _⟩
 case round =>
  obtain⟨k,rfl,hk,HI⟩:=hrel;by_cases hlt:k<L.length
  ·obtain⟨a1,rfl,hb1,hx⟩:=z57.at_ (Row.below H1.out HI.out) hlt;obtain⟨a2,rfl,hb2,hy⟩:=z57.at_ (Row.below H2.out HI.out) hlt;have hz1:(k:Int)<(L.length:Int):=by omega
   generalize L[k]=r at hx hy;obtain⟨x0,x1,x2,x3,x4⟩:=hx;obtain⟨y0,y1,y2,y3,y4⟩:=hy;have hne:=neq_syn r;go_upto_region 6 with fail;go_quiet (fail)
   clear x0 x1 x2 x3 x4 y0 y1 y2 y3 y4 hne;go_wp2_with fail;go_roundw
   case rel=>exact⟨k+1,by go_num,by omega,z0p HI.out _⟩
   case measure=>simp [intOf];omega
  ·have HB:=hd_ HI.out;have hge:¬((k:Int)<(L.length:Int)):=by omega
   go_wp2_with fail;go_ret;exact⟨rfl,HB.out⟩
theorem zmy {p:Pat}(h:z7g p=0):p.parts.length≤12:=by
 unfold z7g at h;split at h
 ·cases h
 ·split at h
  ·cases h
  ·split at h
   ·cases h
   ·omega
theorem zmz (p q:Pat)(A B:Option Addr)(a b:Nat)(w:World)(hp:z9j w (.slice A p.parts.length a) p)(hq:z9j w (.slice B q.parts.length b) q)(hpr:p.rest=true)(hqr:q.rest=true)(hpe:z7g p=0)(hqe:z7g q=0)(hw:WiOk p q):
  Calls prog 115 #[.agg #[.slice A p.parts.length a,.bool true],.agg #[.slice B q.parts.length b,.bool true]] w fun e w'=>e=.returned (.bool true)∧zB w w':=by
 have hA:zB w ((w.alloc (.cells #[.slice A p.parts.length a,.bool true] 68)).alloc (.cells #[.slice B q.parts.length b,.bool true] 68)):=((Below.refl _ _).alloc (Nat.le_refl _) _).alloc (by simp) _
 have h2:zb5 ((w.alloc (.cells #[.slice A p.parts.length a,.bool true] 68)).alloc (.cells #[.slice B q.parts.length b,.bool true] 68)) w.heap.size (.slice A p.parts.length a) true:=(z0l w [.slice A p.parts.length a,.bool true] 68).alloc _;have h3:zb5 ((w.alloc (.cells #[.slice A p.parts.length a,.bool true] 68)).alloc (.cells #[.slice B q.parts.length b,.bool true] 68)) (w.heap.size+1) (.slice B q.parts.length b) true:=by
  have:=z0l (w.alloc (.cells #[.slice A p.parts.length a,.bool true] 68)) [.slice B q.parts.length b,.bool true] 68;rw[World.size_alloc] at this;exact this
 have HCP:=hd_ (fun X (hX:zB w X)=>zcc p A a X (hp.below hX).1 hp.small);have HCQ:=hd_ (fun X (hX:zB w X)=>zcc q B b X (hq.below hX).1 hq.small);rw[hpe,hpr] at HCP;rw[hqe,hqr] at HCQ;have HIN:Hid (∀(k:Nat) (h:k<q.parts.length) (h2:k<p.parts.length) X,Calls prog 117 #[.string p.parts[k],.string q.parts[k]] X fun e w'=>e=.returned (.bool true)∧zB X w'):=hd_ fun k h h2 X=>by
  have:=zlu p.parts[k] q.parts[k] X (zce hpe _) (zce hqe h) (hp.2 _ (List.getElem_mem _)) (hq.2 _ (List.getElem_mem h));rw[hw.all k h] at this;exact this
 have HP:=hd_ hp;have HQ:=hd_ hq;have hle:=hw.le;have hq12:=zmy hqe;have q1:decide ((p.parts.length:Int)<(q.parts.length:Int))=false:=by simp;omega
 clear hp hq hpe hqe hpr hqr hw;go_enter func115,ntmps115;go_upto_region 1 with fail;generalize (w.alloc (.cells #[.slice A p.parts.length a,.bool true] 68)).alloc (.cells #[.slice B q.parts.length b,.bool true] 68)=W1 at hA h2 h3 ⊢;have x0:=h2.c0;have x1:=h2.c1;have y0:=h3.c0;have y1:=h3.c1;have H:=hd_ (And.intro hA (And.intro h2 h3));have HC1:=hd_ (HCP.out W1 hA);clear hA h2 h3;go_wp2_with fail;refine HC1.out.mono ?_;rintro e w2 ⟨rfl,hb⟩;dsimp only;have HB:=hd_ (z0r H.out.1 hb);have HG:=hd_ (And.intro (H.out.2.1.low hb) (H.out.2.2.low hb));have HC2:=hd_ (HCQ.out w2 HB.out);clear hb x0 x1 y0 y1;have x0:=HG.out.1.c0;have x1:=HG.out.1.c1;have y0:=HG.out.2.c0;have y1:=HG.out.2.c1;go_wp2_with fail;refine HC2.out.mono ?_;rintro e w3 ⟨rfl,hb⟩;dsimp only;have HB3:=hd_ (z0r HB.out hb);have HG3:=hd_ (And.intro (HG.out.1.low hb) (HG.out.2.low hb));clear hb x0 x1 y0 y1;have x0:=HG3.out.1.c0;have x1:=HG3.out.1.c1;have y0:=HG3.out.2.c0;have y1:=HG3.out.2.c1;obtain⟨cc,hcc⟩:∃ cc,((p.parts.length:Int) == (q.parts.length:Int))=cc:=⟨_,rfl⟩;cases cc
 all_goals
  go_wp2_with fail;clear x0 x1 y0 y1 hcc;go_loopw [59] (fun i wr=>∃ k:Nat,i=.int .i64 k∧k≤q.parts.length∧Hid (zB w3 wr)) (fun i _=>q.parts.length - (intOf i).toNat)
  case atStart=>exact⟨0,rfl,Nat.zero_le _,hd_ (Below.refl _ _)⟩
  case round =>
   obtain⟨k,rfl,hk,HI⟩:=hrel;by_cases hlt:k<q.parts.length
   ·obtain⟨ad,rfl,hab,s0⟩:=Strs.at_ (HQ.out.below (z0r HB3.out HI.out)).1 hlt;obtain⟨ad2,rfl,hab2,s1⟩:=Strs.at_ (HP.out.below (z0r HB3.out HI.out)).1 (Nat.lt_of_lt_of_le hlt hle);have HCI:=hd_ (HIN.out k hlt (Nat.lt_of_lt_of_le hlt hle) wr);have hlt2:=Nat.lt_of_lt_of_le hlt hle;have x0:=(HG3.out.1.low HI.out).c0;have HLT:=hd_ hlt;generalize q.parts[k]=u at s0 HCI;generalize p.parts[k]=v at s1 HCI;go_wp2_with fail;refine HCI.out.mono ?_;rintro e w4 ⟨rfl,hb⟩;dsimp only;have HB4:=hd_ (z0r HI.out hb);clear hb s0 s1 x0;go_wp2_with fail;go_roundw
    case rel=>exact⟨k+1,by go_num,by have:=HLT.out;omega,HB4⟩
    case measure=>have:=HLT.out;simp [intOf];omega
   ·have hke:k=q.parts.length:=by omega
    have HB5:=hd_ (z0r HB3.out HI.out);subst hke;go_wp2_with fail;go_ret;exact⟨rfl,HB5.out⟩
open Go.Sort (grow)
section
variable {u0 u1 u2 u3 u4 u5 u6 u7 u8 u9 gA gC gD gE gF gG gH gI gJ gK gL gM gN gO gP gQ gR gT gV gW gX gY gZ i6 i7 i8 ia ib ic ie ig ii ij ik il im io ip iq ir iu iv iw ix iy iz iA iB iC iD iE iF iG iH iI : Value}
theorem bdR13 (ops:Array Oper)(hops:Tryz.f112.body.bind (z0x 13)=some ops)(Q:Exit→Act→World→Prop)(V:World)(gp gq np nq a b:Nat)(A B:Option Addr)(l:List ByteArray)
  (hP:zb5 V gp (.slice A np a) true) (hQB:zb5 V gq (.slice B nq b) true) (hS:Strs V (.slice B nq b) l) (hl:l.length=nq) (hn:np≤nq) (hb:nq≤1000)
  (hQ:∀(fm fp fq ft fu fv fw fx fy fA fB fC fD:Value) (B1:Addr) (c1:Nat) (A':Option Addr) (c':Nat) (w':World),Hid (zB V w'∧Row w' 2 (.slice (some B1) 1 c1) 1 [.slice A' (nq - np) c',.bool true]∧Strs w' (.slice A' (nq - np) c') (l.drop np))→Q .normal ⟨#[u0,u1,.pointer (some ⟨gp,0,none⟩),.pointer (some ⟨gq,0,none⟩),u4,u5,.slice (some B1) 1 c1,u7,u8,u9,gA,gC,gD,gE,gF,gG,gH,gI,gJ,gK,gL,gM,gN,gO,gP,gQ,gR,gT,gV,gW,gX,gY,gZ,i6,i7,i8,ia,ib,ic,ie,ig,ii,ij,ik,il,im,io,ip,iq,ir,iu,fm,fp,fq,ft,fu,fv,fw,fx,fy,fA,fB,fC,fD,iI],[]⟩ w'):
  (Code.region 13 ops true).wp prog Q ⟨#[u0,u1,.pointer (some ⟨gp,0,none⟩),.pointer (some ⟨gq,0,none⟩),u4,u5,.slice none 0 0,u7,u8,u9,gA,gC,gD,gE,gF,gG,gH,gI,gJ,gK,gL,gM,gN,gO,gP,gQ,gR,gT,gV,gW,gX,gY,gZ,i6,i7,i8,ia,ib,ic,ie,ig,ii,ij,ik,il,im,io,ip,iq,ir,iu,iv,iw,ix,iy,iz,iA,iB,iC,iD,iE,iF,iG,iH,iI],[]⟩ V:=by
 simp only[Tryz.f112,Option.bind_some,z0x] at hops
 simp at hops
 subst hops;subst hl;obtain⟨Af,cf,hsl,hrw⟩:=zll (P:=prog) (w:=V) underlying29 zbd hS hn;have HQ:=hd_ hQ;have HROW:Hid (∀ W,zB V W→Row W 1 (.slice Af (l.length - np) cf) (l.length - np) ((l.drop np).map .string)):=hd_ fun W hW=>by
  have:=hrw W (Strs.below hS hW);rw[Nat.mul_one,← List.map_drop] at this;exact this
 have HONE:Hid (∀ v∈(l.drop np).map Value.string,v.oneCell'=true):=hd_ (fun v hv=>by obtain⟨x,-,rfl⟩:=List.mem_map.1 hv;rfl)
 have HF:Hid (∀ w',zB V w'→w'.cell? ⟨gp,0,none⟩=some (.slice A np a)∧w'.cell? ⟨gq,0,none⟩=some (.slice B l.length b)∧w'.cell? ⟨gq,1,none⟩=some (.bool true)):=hd_ fun w' hw=>⟨(hP.low hw).c0,(hQB.low hw).c0,(hQB.low hw).c1⟩;have HLD:Hid ((l.drop np).length=l.length - np):=hd_ (List.length_drop);clear hQ hP hQB hrw hS;obtain⟨f0,f1,f2⟩:=HF.out V (Below.refl _ _);refine wp_region_noPanic ?_;go_region_law (first
   | (refine z0t (base:=V.heap.size) (n:=0) (xs:=[]) rfl rfl zl2 (World.ownsRow_nil _ _ _ _) (by simp [Act.eval,Act.put];done) (HROW.out _ (Below.refl _ _).drew) (by simp [Act.eval,Act.put];done) HONE.out (by omega) (by unfold maxLen;omega) (by simp) ?_;intro A5 c5 w5 hO5 hG5 hw5;have hX5:=zlp hG5 rfl;have hS5:zB V w5:=(Below.refl _ _).drew.trans hX5;obtain⟨f5,f6,f7⟩:=HF.out w5 hS5;rw[Nat.zero_add,List.nil_append] at hO5)
   | (refine z0t (base:=V.heap.size) (n:=0) (xs:=[]) rfl rfl zch (World.ownsRow_nil _ _ _ _) (by simp [Act.eval,Act.put];done) (z0i w5 [.slice A5 (l.length - np) c5,.bool true] _ 2 1 rfl (by decide) _ rfl) (by simp [Act.eval,Act.put];done) (by simp [Value.oneCell']) (by omega) (by unfold maxLen;omega) (by have:=hS5.size;simp;omega) ?_;intro A6 c6 w6 hO6 hG6 hw6;have hX6:=zlp hG6 rfl;have hS6:zB V w6:=z0r hS5 (z0r ((Below.refl _ _).alloc (Nat.le_refl _) _) hX6);have hT6:Row w6 1 (.slice A5 (l.length - np) c5) (l.length - np) ((l.drop np).map .string):=Row.of_own (z0n hO5 (z0r ((Below.refl _ _).alloc (Nat.le_refl _) _) hX6));obtain⟨B1,hB1⟩:∃ B1,A6=some B1:=(by obtain⟨A7,c7,e7,-,-,-,-,h7⟩:=Row.of_own hO6;injection e7 with e7 e8 e9;obtain⟨ad,e10,-⟩:=h7 (by omega);exact⟨ad,by rw[e7,e10]⟩);subst hB1;rw[Nat.zero_add,List.nil_append] at hO6))
 all_goals exact NoPanic.normal (HQ.out _ _ _ _ _ _ _ _ _ _ _ _ _ _ _ _ _ _ (hd_ ⟨hS6,Row.of_own hO6,by unfold Strs;rw[HLD.out];exact hT6⟩))
end
theorem zn0 (p q:Pat)(A B:Option Addr)(a b:Nat)(w:World)(hp:z9j w (.slice A p.parts.length a) p)(hq:z9j w (.slice B q.parts.length b) q)(hn:zcg p)(hqr:q.rest=true)(hqe:z7g q=0)(hw:WiOk q p):
  Calls prog 112 #[.agg #[.slice A p.parts.length a,.bool true],.agg #[.slice B q.parts.length b,.bool true]] w (zci w p q):=by
 have hA:zB w ((w.alloc (.cells #[.slice A p.parts.length a,.bool true] 68)).alloc (.cells #[.slice B q.parts.length b,.bool true] 68)):=((Below.refl _ _).alloc (Nat.le_refl _) _).alloc (by simp) _
 have h2:zb5 ((w.alloc (.cells #[.slice A p.parts.length a,.bool true] 68)).alloc (.cells #[.slice B q.parts.length b,.bool true] 68)) w.heap.size (.slice A p.parts.length a) true:=(z0l w [.slice A p.parts.length a,.bool true] 68).alloc _;have h3:zb5 ((w.alloc (.cells #[.slice A p.parts.length a,.bool true] 68)).alloc (.cells #[.slice B q.parts.length b,.bool true] 68)) (w.heap.size+1) (.slice B q.parts.length b) true:=by
  have:=z0l (w.alloc (.cells #[.slice A p.parts.length a,.bool true] 68)) [.slice B q.parts.length b,.bool true] 68;rw[World.size_alloc] at this;exact this
 have HWI:=hd_ (fun X (hX:zB w X)=>zmz q p B A b a X (hq.below hX) (hp.below hX) hqr hn.rest hqe hn.pat hw);have HST:Hid (∀(k:Nat) (h:k<p.parts.length) X,Calls prog 111 #[.string p.parts[k]] X fun e w'=>∃ s,e=.returned (.tuple #[.string s,.bool false])∧zB X w'):=hd_ fun k h X=>by
  have h0:zbl p.parts[k]=false:=by unfold zbl;rw[hn.star _ (List.getElem_mem h)];rfl
  refine (zc4 p.parts[k] X (hp.small _ (List.getElem_mem h))).mono ?_;rintro e w' ⟨rfl,rfl⟩;rw[h0];exact⟨_,rfl,Below.refl _ _⟩
 have hle:=hw.le;have hq12:=zmy hqe;have HP:=hd_ hp;have HQ:=hd_ hq;clear hp hq hn hqr hqe hw;go_enter func112,ntmps112;go_upto_region 1 with fail;generalize (w.alloc (.cells #[.slice A p.parts.length a,.bool true] 68)).alloc (.cells #[.slice B q.parts.length b,.bool true] 68)=W1 at hA h2 h3 ⊢;have x0:=h2.c0;have x1:=h2.c1;have y0:=h3.c0;have y1:=h3.c1;have H:=hd_ (And.intro hA (And.intro h2 h3));have HC1:=hd_ (HWI.out W1 hA);clear hA h2 h3;go_wp2_with fail;refine HC1.out.mono ?_;rintro e w2 ⟨rfl,hb⟩;dsimp only;have HB:=hd_ (z0r H.out.1 hb);have HG:=hd_ (And.intro (H.out.2.1.low hb) (H.out.2.2.low hb));clear hb x0 x1 y0 y1;have x0:=HG.out.1.c0;go_wp2_with fail;clear x0;go_loopw [6,19] (fun v i wr=>∃ k:Nat,v=.slice none 0 0∧i=.int .i64 k∧k≤p.parts.length∧Hid (zB w2 wr)) (fun _ i _=>p.parts.length - (intOf i).toNat)
 case atStart=>exact⟨0,rfl,rfl,Nat.zero_le _,hd_ (Below.refl _ _)⟩
 case round =>
  obtain⟨k,rfl,rfl,hk,HI⟩:=hrel;by_cases hlt:k<p.parts.length
  ·obtain⟨ad,rfl,hab,s0⟩:=Strs.at_ (HP.out.below (z0r HB.out HI.out)).1 hlt;have HCI:=hd_ (HST.out k hlt wr);have HLT:=hd_ hlt;generalize p.parts[k]=v at s0 HCI;go_wp2_with fail;refine HCI.out.mono ?_;rintro e w4 ⟨s,rfl,hb⟩;dsimp only;have HB4:=hd_ (z0r HI.out hb);clear hb s0;go_wp2_with fail;go_roundw
   case rel=>exact⟨k+1,rfl,by go_num,by have:=HLT.out;omega,HB4⟩
   case measure=>have:=HLT.out;simp [intOf];omega
  ·have hke:k=p.parts.length:=by omega
   have HB5:=hd_ (z0r HB.out HI.out);have HG5:=hd_ (And.intro (HG.out.1.low HI.out) (HG.out.2.low HI.out));have x1:=HG5.out.1.c1;subst hke;go_upto_region 13 with fail;refine bdR13 _ (by kernel_rfl) _ wr w.heap.size (w.heap.size+1) p.parts.length q.parts.length a b A B q.parts HG5.out.1 HG5.out.2 (HQ.out.below HB5.out).1 rfl hle (by omega) ?_
   intro fm fp fq ft fu fv fw fx fy fA fB fC fD B1 c1 A' c' w5 HO;have HB6:=hd_ (z0r HB5.out HO.out.1);clear x1;go_wp2_with fail;go_ret2;exact⟨HB6.out,B1,c1,A',c',rfl,HO.out.2.1,HO.out.2.2⟩
def zng (b:Pat)(hs:List zco)(p:ByteArray):Bool:=(z8g b p).isSome && !zd8 hs p
theorem znh (b:Pat)(hs:List zco)(A H:Option Addr)(a hc:Nat)(p:ByteArray)(w:World)(he:Env w)(hb:z9j w (.slice A b.parts.length a) b)(hh:zcp w (.slice H hs.length hc) hs)(hz:p.size≤1000000)(hn:hs.length≤1000):
  Calls prog 137 #[.agg #[.slice A b.parts.length a,.bool b.rest,.slice H hs.length hc],.string p] w fun e w'=>e=.returned (.bool (zng b hs p))∧zB w w':=by
 have hB:=z0l w [.slice A b.parts.length a,.bool b.rest,.slice H hs.length hc] 78;have hA:zB w (w.alloc (.cells #[.slice A b.parts.length a,.bool b.rest,.slice H hs.length hc] 78)):=(Below.refl _ _).alloc (Nat.le_refl _) _;have HM:=hd_ (fun X (hX:zB w X)=>zcf b p A a X (he.below hX) hz (hb.below hX).1 hb.small);have HMQ:=hd_ (fun(q:Pat) (Q:Option Addr) (c:Nat) X (hX:zB w X) (hq:z9j X (.slice Q q.parts.length c) q)=>zcf q p Q c X (he.below hX) hz hq.1 hq.small);have HNO:Hid (∀ k (hk:k<hs.length),(z8g hs[k].1 p).isSome=true→zd8 hs p=true):=hd_ (fun k hk h=>List.any_eq_true.2 ⟨_,List.getElem_mem hk,h⟩);have HYE:Hid ((∀ k (hk:k<hs.length),(z8g hs[k].1 p).isSome=false)→zd8 hs p=false):=hd_ (fun h=>by
  unfold zd8;rw[List.any_eq_false];intro q hq;obtain⟨k,hk,rfl⟩:=List.getElem_of_mem hq;rw[h k hk];decide)
 have HHB:Hid (zng b hs p=((z8g b p).isSome && !zd8 hs p)):=hd_ rfl;generalize zd8 hs p=r at HNO HYE HHB;have HH:=hd_ hh;clear he hb hh;go_enter func137,ntmps137;go_upto_region 1 with fail;generalize w.alloc (.cells #[.slice A b.parts.length a,.bool b.rest,.slice H hs.length hc] 78)=W1 at hA hB ⊢;obtain⟨d0,d1⟩:=(⟨hB.cell 0,hB.cell 1⟩:W1.cell? ⟨w.heap.size,0,none⟩=some (.slice A b.parts.length a)∧W1.cell? ⟨w.heap.size,1,none⟩=some (.bool b.rest));have HB:=hd_ hB;have HA:=hd_ hA;have HC1:=hd_ (HM.out W1 hA);clear hA hB HM;go_wp2_with fail;refine HC1.out.mono ?_;rintro e w2 ⟨A',n,c',rfl,hb2,-⟩;dsimp only;have HB2:=hd_ (z0r HA.out hb2);have HX2:=hd_ (HB.out.below hb2 HB.out.lt);clear hb2 d0 d1 HC1;generalize (z8g b p).isSome=o at HHB ⊢;cases o with
 | false =>
  have HF:Hid (zng b hs p=false):=hd_ (by rw[HHB.out];rfl)
  go_wp2_with fail;go_ret;exact⟨z13 HF.out.symm,HB2.out⟩
 | true =>
  have HF:Hid (zng b hs p=!r):=hd_ (by rw[HHB.out];rfl)
  have d2:w2.cell? ⟨w.heap.size,2,none⟩=some (.slice H hs.length hc):=HX2.out.cell 2;go_wp2_with fail;clear d2;go_loopw [23] (fun i wr=>∃ k:Nat,i=.int .i64 k∧k≤hs.length∧Hid ((∀ j (hj:j<hs.length),j<k→(z8g hs[j].1 p).isSome=false)∧zB w2 wr)) (fun i _=>hs.length - (intOf i).toNat)
  case atStart=>exact⟨0,rfl,Nat.zero_le _,hd_ ⟨fun j _ h=>by omega,Below.refl _ _⟩⟩
  case round =>
   obtain⟨k,rfl,hk,HI⟩:=hrel;by_cases hlt:k<hs.length
   ·have HHX:=hd_ (HH.out.below (z0r HB2.out HI.out.2));obtain⟨ad,rfl,hab,s0,s1⟩:=HHX.out.at_ hlt;have HPK:=hd_ (HHX.out.2 hs[k] (List.getElem_mem hlt));have HY:=hd_ (HNO.out k hlt);have HN:Hid ((z8g hs[k].1 p).isSome=false→∀ j (hj:j<hs.length),j<k+1→(z8g hs[j].1 p).isSome=false):=hd_ (fun h j hj hjk=>by
     by_cases e:j=k
     ·subst e;exact h
     ·exact HI.out.1 j hj (by omega))
    have HBI:=hd_ HI.out.2;have HLT:=hd_ hlt;generalize hs[k]=q at s0 s1 HPK HY HN;obtain⟨q,Aq,cq⟩:=q;change wr.cell? _=some (.slice Aq q.parts.length cq) at s0;change wr.cell? _=some (.bool q.rest) at s1;have hX:zB wr (wr.alloc (.cells #[.slice Aq q.parts.length cq,.bool q.rest] 68)):=(Below.refl _ _).alloc (Nat.le_refl _) _;have HBX:=hd_ (z0r HBI.out hX);have HCQ:=hd_ (HMQ.out q Aq cq _ (z0r HB2.out HBX.out) (HPK.out.below hX));clear hab hX HI;dsimp only at HY HN
    go_wp2_with fail;refine HCQ.out.mono ?_;rintro e w4 ⟨A4,n4,c4,rfl,hb4,-⟩;dsimp only;have HB4:=hd_ (z0r HBX.out hb4);clear hb4 s0 s1;generalize (z8g q p).isSome=oq at HY HN ⊢;cases oq with
    | false =>
     have HN2:=hd_ (HN.out rfl);go_wp2_with fail;go_roundw
     case rel=>exact⟨k+1,by go_num,by have:=HLT.out;omega,hd_ ⟨HN2.out,HB4.out⟩⟩
     case measure=>have:=HLT.out;simp [intOf];omega
    | true =>
     have HR:=hd_ (HY.out rfl);have HB5:=hd_ (z0r HB2.out HB4.out);go_wp2_with fail;go_ret;exact⟨z13 (by rw[HF.out,HR.out];rfl),HB5.out⟩
   ·have hke:k=hs.length:=by omega
    have HR:=hd_ (HYE.out (fun j hj=>HI.out.1 j hj (by omega)))
    have HB5:=hd_ (z0r HB2.out HI.out.2);clear HI;subst hke;go_wp2_with fail;go_ret;exact⟨z13 (by rw[HF.out,HR.out];rfl),HB5.out⟩
theorem rBy_ok (es:List zcv)(v:Value)(p:ByteArray)(w:World)(he:Env w)(hE:zd1 w v es)(hl32:es.length≤32)(hz:p.size≤1000000)
  (hF:∀ x∈es,∀ X,zB w X→Calls prog 138 #[.agg #[.bool false,x.l.v,.bool x.l.1.rest,x.r.v,.bool x.r.1.rest],.string p] X (zbi X (zbh x.l.1 x.r.1 p))):
  Calls prog 79 #[v,.string p] w (zbi w (zdc es p)):=by
 obtain⟨A,c,rfl,-⟩:=id hE.1;have HE:=hd_ (fun X (hX:zB w X)=>hE.below hX);have HEV:=hd_ (fun X (hX:zB w X)=>he.below hX);have HF:=hd_ hF;have HAT:=hd_ (fun k hk=>@zde es p k hk);have HNO:=hd_ (@zdf es p);generalize zdc es p=r at HAT HNO ⊢;clear hE he hF;go_enter func79,ntmps79;go_wp2_with fail;go_loopw [10] (fun i wr=>∃ k:Nat,i=.int .i64 k∧k≤es.length∧Hid (zB w wr∧∀ j (hj:j<es.length),j<k→zdb es[j] p=none)) (fun i _=>es.length - (intOf i).toNat)
 case atStart=>exact⟨0,rfl,Nat.zero_le _,hd_ ⟨Below.refl _ _,fun j _ h=>by omega⟩⟩
 case round =>
  obtain⟨k,rfl,hk,HI⟩:=hrel;by_cases hlt:k<es.length
  ·have HBW:=hd_ HI.out.1;have HEX:=hd_ (HE.out wr HBW.out);obtain⟨ad,rfl,hab,s0,s1,s2,s3,s4⟩:=HEX.out.at_ hlt;have HXI:=hd_ (HEX.out.2 es[k] (List.getElem_mem hlt));have HXF:=hd_ (HF.out es[k] (List.getElem_mem hlt));have HR1:=hd_ (HAT.out k hlt HI.out.2);have HJ:Hid (zdb es[k] p=none→∀ j (hj:j<es.length),j<k+1→zdb es[j] p=none):=hd_ (fun h j hj hjk=>by
    by_cases e:j=k
    ·subst e;exact h
    ·exact HI.out.2 j hj (by omega))
   generalize es[k]=x at s0 s1 s2 s3 s4 HXI HXF HR1 HJ;obtain⟨H,hc,hhv⟩:=HXI.out.holes;obtain⟨⟨pl,Al,cl⟩,⟨pr,Ar,cr⟩,hv,hs⟩:=x;change hv=.slice H hs.length hc at hhv;subst hhv;change wr.cell? _=some (.slice Al pl.parts.length cl) at s0;change wr.cell? _=some (.bool pl.rest) at s1;change wr.cell? _=some (.slice Ar pr.parts.length cr) at s2;change wr.cell? _=some (.bool pr.rest) at s3;change wr.cell? _=some (.slice H hs.length hc) at s4;have hX:zB wr (wr.alloc (.cells #[.slice Al pl.parts.length cl,.bool pl.rest,.slice Ar pr.parts.length cr,.bool pr.rest,.slice H hs.length hc] 71)):=(Below.refl _ _).alloc (Nat.le_refl _) _;have HXP:=hd_ (HXI.out.below hX);have HX:=hd_ (z0r HBW.out hX);have HN:Hid (Blk (wr.alloc (.cells #[.slice Al pl.parts.length cl,.bool pl.rest,.slice Ar pr.parts.length cr,.bool pr.rest,.slice H hs.length hc] 71)) wr.heap.size 71 [.slice Al pl.parts.length cl,.bool pl.rest,.slice Ar pr.parts.length cr,.bool pr.rest,.slice H hs.length hc]):=hd_ (z0l wr _ _);have HLT:=hd_ hlt;clear hab hX;go_upto_region 4 with fail;generalize wr.alloc (.cells #[.slice Al pl.parts.length cl,.bool pl.rest,.slice Ar pr.parts.length cr,.bool pr.rest,.slice H hs.length hc] 71)=W4 at HX HN HXP ⊢;generalize wr.heap.size=g7 at HN ⊢;clear s0 s1 s2 s3 s4;obtain⟨x0,x1,x4⟩:=(⟨HN.out.cell 0,HN.out.cell 1,HN.out.cell 4⟩:W4.cell? ⟨g7,0,none⟩=some (.slice Al pl.parts.length cl)∧W4.cell? ⟨g7,1,none⟩=some (.bool pl.rest)∧W4.cell? ⟨g7,4,none⟩=some (.slice H hs.length hc));have HHA:=hd_ (znh pl hs Al H cl hc p W4 (HEV.out W4 HX.out) HXP.out.l HXP.out.h hz HXP.out.n);have HONE:Hid (zdb ⟨(pl,Al,cl),(pr,Ar,cr),.slice H hs.length hc,hs⟩ p=if zng pl hs p then zbh pl pr p else none):=hd_ (by
    unfold zdb zng zbh;cases z8g pl p <;> cases zd8 hs p <;> simp)
   have HSM:Hid (zng pl hs p=true→(zbh pl pr p).isSome=true):=hd_ (by
    unfold zng zbh;cases z8g pl p <;> simp)
   generalize zng pl hs p=o at HHA HONE HSM;generalize zbh pl pr p=q at HXF HONE HSM;go_wp2_with fail;refine HHA.out.mono ?_;rintro e w5 ⟨rfl,hb⟩;dsimp only;have HB:=hd_ (z0r HX.out hb);have HN5:=hd_ (HN.out.below hb HN.out.lt);clear hb x0 x1 x4 HHA HN;cases o with
   | false =>
    have HNX:=hd_ (HJ.out HONE.out);go_wp2_with fail;go_roundw
    case rel=>exact⟨k+1,by go_num,by omega,hd_ ⟨HB.out,HNX.out⟩⟩
    case measure=>simp [intOf];omega
   | true =>
    have HRR:Hid (r=q):=hd_ (by
     have h1:=HR1.out;rw[HONE.out] at h1;rw[h1];have h2:=HSM.out rfl;cases q with
     | none=>cases h2
     | some s=>rfl)
    have HFW:=hd_ (HXF.out w5 HB.out);obtain⟨x0,x1,x2,x3⟩:=(⟨HN5.out.cell 0,HN5.out.cell 1,HN5.out.cell 2,HN5.out.cell 3⟩:w5.cell? ⟨g7,0,none⟩=some (.slice Al pl.parts.length cl)∧w5.cell? ⟨g7,1,none⟩=some (.bool pl.rest)∧w5.cell? ⟨g7,2,none⟩=some (.slice Ar pr.parts.length cr)∧w5.cell? ⟨g7,3,none⟩=some (.bool pr.rest));go_wp2_with fail;refine HFW.out.mono ?_;rintro e w6 ⟨rfl,hb⟩;dsimp only;have HB6:=hd_ (z0r HB.out hb);clear hb x0 x1 x2 x3;go_wp2_with fail;go_ret2;exact⟨by rw[HRR.out];rfl,HB6.out⟩
  ·have hke:k=es.length:=by omega
   subst hke;have HR:=hd_ (HNO.out (fun j hj=>HI.out.2 j hj hj));have HB:=hd_ HI.out.1;have hge:¬((es.length:Int)<(es.length:Int)):=by omega
   go_wp2_with fail;go_ret2;exact⟨by rw[HR.out];rfl,HB.out⟩
def zny (w:World)(l:List Hav)(e:Ending)(w':World):Prop:=∃ v,e=.returned v∧w'.ownsRow w.heap.size 96 3 v l.length (l.flatMap Hav.cells)∧zB w w'
theorem znz (l:List Hav)(v:Value)(h:Hav)(w:World)(he:Env w)(hH:z4h w v l)(hv:∀ x∈l,z2x x.path=true∧x.path.size≤1000000)(hp:z2x h.path=true)(hz:h.path.size≤1000000)(hl:l.length≤1000000):
  Calls prog 40 #[v,.agg #[.string h.path,.int .i64 h.num,.string h.loc]] w (zny w (zl6 l h)):=by
 obtain⟨A,c,rfl,-⟩:=id hH;have hA:zB w (w.alloc (.cells #[.string h.path,.int .i64 h.num,.string h.loc] 96)):=(Below.refl _ _).alloc (Nat.le_refl _) _;have hB:=z0l w [.string h.path,.int .i64 h.num,.string h.loc] 96;have HF:=hd_ (zlj l _ h.path _ (he.below hA) (hH.under hA) hv hp hz (by omega))
 have HH:=hd_ hH;have HB:=hd_ hB;have HA:=hd_ hA;obtain⟨hle,hlt⟩:=zl7 l h.path;have HPUT:Hid (zl6 l h=l.take (zl5 l h.path).1++h :: l.drop ((zl5 l h.path).1+if (zl5 l h.path).2 then 1 else 0)):=hd_ rfl;obtain⟨i,hi⟩:∃ i,(zl5 l h.path).1=i:=⟨_,rfl⟩;obtain⟨b,hb⟩:∃ b,(zl5 l h.path).2=b:=⟨_,rfl⟩;rw[hi,hb] at HF HPUT;rw[hi] at hle hlt;rw[hb] at hlt;have HLT:=hd_ hlt;clear hA he hH hv hp hz hi hb hlt;obtain⟨f0,-,-⟩:=z3x (x:=h) hB;clear hB;go_enter func40,ntmps40;go_upto_region 2 with fail;refine HF.out.mono ?_;rintro e w2 ⟨rfl,hb2⟩;have HB2:=hd_ (HB.out.below hb2 HB.out.lt);have HA2:=hd_ (z0r HA.out hb2);clear hb2 f0 HF;go_upto_region 2 with fail;refine puR2 _ (by kernel_rfl) _ w2 A c w.heap.size i l h (HH.out.under HA2.out) HB2.out hle (by omega) ?_
 intro eu ez eA eB eC eD eE A' c' w3 HO;have HB3:=hd_ (z0r HA2.out HO.out.1);have hown:w3.ownsRow w.heap.size 96 3 (.slice A' (i+1) c') (i+1) ((l.take i++[h]).flatMap Hav.cells):=z4v HO.out.2 HA2.out.size;have HOWN:=hd_ hown;have hbs:=HB3.out.size;have HFIN:Hid (∀(b':Nat) (v:Value) (n:Nat) (w':World),n=(i+1)+(l.length - b')→b'≤l.length→b'=i+(if b=true then 1 else 0)→w'.ownsRow w.heap.size 96 3 v n ((l.take i++[h]).flatMap Hav.cells++(l.drop b').flatMap Hav.cells)→w'.ownsRow w.heap.size 96 3 v (zl6 l h).length ((zl6 l h).flatMap Hav.cells)):=hd_ fun b' v n w' hn hb' hbe ho=>by
  rw[hbe] at ho;have e1:zl6 l h=(l.take i++[h])++l.drop (i+if b=true then 1 else 0):=by rw[HPUT.out];simp
  rw[e1,List.flatMap_append];have e2:((l.take i++[h])++l.drop (i+if b=true then 1 else 0)).length=n:=by
   rw[hn,hbe] at *;simp only[List.length_append,List.length_take,List.length_singleton,List.length_drop]
   omega
  rw[e2];exact ho
 clear HO hown;cases b
 ·obtain⟨Af,cf,hsl,hrw⟩:=zll (P:=prog) (w:=w3) underlying28 zi8 (HH.out.under HB3.out) hle;have HR:Hid (Row w3 3 (.slice Af (l.length - i) cf) (l.length - i) ((l.drop i).flatMap Hav.cells)):=hd_ (by rw[← zlo];exact hrw w3 (HH.out.under HB3.out))
  clear hrw;have hol:=HOWN.out;have HDO:Hid (∀ v∈(l.drop i).flatMap Hav.cells,v.oneCell'=true):=hd_ (zlm _);go_upto_region 5 with fail;go_wp2_with (at_builtin;refine z0j (base:=w.heap.size) rfl rfl z5a HOWN.out rfl HR.out rfl HDO.out (by omega) (by unfold maxLen;omega) hbs ?_;intro A6 c6 w6 hO6 hG6 hw6)
  have hX6:zB w w6:=HB3.out.grown hG6 hbs (fun k e=>(HOWN.out.lt k e).1);go_ret;exact⟨_,rfl,HFIN.out i _ _ _ rfl hle (by simp) hO6,hX6⟩
 ·have hlt:=HLT.out rfl;have hw1:IntKind.i64.wrap ((i:Int)+1)=((i+1:Nat):Int):=by rw[IntKind.wrap_i64];omega
  obtain⟨Af,cf,hsl,hrw⟩:=zll (P:=prog) (w:=w3) underlying28 zi8 (HH.out.under HB3.out) (show i+1≤l.length from hlt);have hsl2:∀ X,(Instr.sliceAt 28 (.slice A l.length c) (some (.int .i64 ((i:Int)+1))) none none).run prog X=.ok (.slice Af (l.length - (i+1)) cf) X:=fun X=>hsl X;have hw2:IntKind.i64.wrap ((i:Int)+1)=(i:Int)+1:=by rw[IntKind.wrap_i64];omega
  clear hw1 hsl;have HR:Hid (Row w3 3 (.slice Af (l.length - (i+1)) cf) (l.length - (i+1)) ((l.drop (i+1)).flatMap Hav.cells)):=hd_ (by rw[← zlo];exact hrw w3 (HH.out.under HB3.out))
  clear hrw;have HDO:Hid (∀ v∈(l.drop (i+1)).flatMap Hav.cells,v.oneCell'=true):=hd_ (zlm _);go_upto_region 5 with fail;go_wp2_with (at_builtin;refine z0j (base:=w.heap.size) rfl rfl z5a HOWN.out rfl HR.out rfl HDO.out (by omega) (by unfold maxLen;omega) hbs ?_;intro A6 c6 w6 hO6 hG6 hw6)
  have hX6:zB w w6:=HB3.out.grown hG6 hbs (fun k e=>(HOWN.out.lt k e).1);go_ret;exact⟨_,rfl,HFIN.out (i+1) _ _ _ rfl hlt (by simp) hO6,hX6⟩
theorem z58.lt {w:World}{ad:Addr}{x:Syn}(h:z58 w ad x):ad.block<w.heap.size:=z03 h.1
