/- A part of the proof. -/
import Derived.Test.YtegeboijhifmcaaGreatDoorMgs27
set_option linter.unusedVariables false
set_option linter.unusedSimpArgs false
set_option maxHeartbeats 8000000
set_option maxRecDepth 100000
namespace Go.Proofs.YtegeboijhifmcaaGreatDoor
open Go.RowKit
section
variable {u0 u1 u2 u3 u4 u5 u6 u7 u8 u9 gn gt gu gx gy gz gA gC gD gE gF gG gH gI gJ gK gL gM gN gO gP gQ gR gT gV gW gX gY gZ : Value}
theorem znw {w:World}{g:Nat}{t:TypeId}{cs:List Value}{v:Value}{l:List ByteArray}(hB:Blk w g t cs)(hns:∀ u∈cs,∀ s,u≠.string s)(h:Strs w v l)(i:Nat)(u:Value):Strs (w.setCell ⟨g,i,none⟩ u) v l:=by
  obtain⟨A,c,rfl,hc,hm,hl,h0,hx⟩:=h;refine⟨A,c,rfl,hc,hm,hl,h0,fun hn=>?_⟩;obtain⟨ad,rfl,hb,hcell⟩:=hx hn;refine⟨ad,rfl,by simpa using hb,fun j x hx2=>?_⟩
  have hq:=hcell j x hx2;by_cases hg:ad.block=g
  · exfalso
    rw[List.getElem?_map] at hx2;obtain⟨s,-,rfl⟩:=Option.map_eq_some_iff.1 hx2;unfold World.cell? at hq
    unfold Blk at hB;rw[show (ad.add j).block=g from (z00 ad j).trans hg,hB] at hq;simp at hq
    exact hns _ (List.mem_of_getElem? hq.2) s rfl
  · rw[World.cell?_setCell_far _ _ _ _ (fun e=>hg ((z00 ad j).symm.trans e.symm))]
    exact hq
theorem rt_end2 {w6:World}{g n m c d:Nat}{A C:Option Addr}{b1 b2 b3:Bool}{v:Value}{l:List ByteArray}(hB:Blk w6 g 119 [.bool false,.slice none 0 0,.bool false,.slice none 0 0,.bool false])(h:Strs w6 v l):
    Strs (((((w6.setCell ⟨g,0,none⟩ (.bool b1)).setCell ⟨g,1,none⟩ (.slice A n c)).setCell ⟨g,2,none⟩ (.bool b2)).setCell ⟨g,3,none⟩ (.slice C m d)).setCell ⟨g,4,none⟩ (.bool b3)) v l:=by
  have g1:=znw hB (by simp) h 0 (.bool b1)
  have B1:=hB.set_ 0 (.bool b1);have g2:=znw B1 (by simp) g1 1 (.slice A n c)
  have B2:=B1.set_ 1 (.slice A n c);have g3:=znw B2 (by simp) g2 2 (.bool b2)
  have B3:=B2.set_ 2 (.bool b2);have g4:=znw B3 (by simp) g3 3 (.slice C m d)
  have B4:=B3.set_ 3 (.slice C m d);exact znw B4 (by simp) g4 4 (.bool b3)
theorem rrR5 (ops:Array Oper)(hops:Tryz.f138.body.bind (zci 5)=some ops)(Q:Exit→Act→World→Prop)(l r h m:Pat)(A B C H:Option Addr)(a b c n hc g1 g6:Nat)(V1:World)
    (h1:Blk V1 g1 100 [.slice A l.parts.length a,.bool l.rest,.slice C r.parts.length c,.bool r.rest,.slice H n hc]) (h6:zbo V1 g6 (.slice B h.parts.length b) h.rest)
    (hl:za9 V1 (.slice A l.parts.length a) l) (hh:za9 V1 (.slice B h.parts.length b) h) (hr:za9 V1 (.slice C r.parts.length c) r) (hn:zcw l r h m) (hsym:znr l h)
    (hQ:∀(en eo er et eu ez eA eB:Value) (g7:Nat) (A' C':Option Addr) (a' c':Nat) (w':World),Below V1.heap.size V1 w'→w'.cell? ⟨g7,3,none⟩=some (.slice C' (zcv l r m).parts.length c')→w'.cell? ⟨g7,4,none⟩=some (.bool true)→V1.heap.size≤g7→za9 w' (.slice C' (zcv l r m).parts.length c') (zcv l r m)→Q .normal ⟨#[u0,.pointer (some ⟨g1,0,none⟩),u2,u3,u4,u5,.pointer (some ⟨g6,0,none⟩),.pointer (some ⟨g7,0,none⟩),.bool true,.int .i64 0,gn,gt,gu,gx,gy,gz,gA,en,eo,er,et,eu,ez,eA,eB,gK,gL,gM,gN,gO,gP,gQ,gR,gT,gV,gW,gX,gY,gZ],[]⟩ w'):
    (Code.region 5 ops true).wp Tryz.prog Q ⟨#[u0,.pointer (some ⟨g1,0,none⟩),u2,u3,u4,u5,.pointer (some ⟨g6,0,none⟩),u7,u8,u9,gn,gt,gu,gx,gy,gz,gA,gC,gD,gE,gF,gG,gH,gI,gJ,gK,gL,gM,gN,gO,gP,gQ,gR,gT,gV,gW,gX,gY,gZ],[]⟩ V1:=by
  simp only[Tryz.f138,Option.bind_some,zci] at hops
  simp at hops
  subst hops;have HQ:=hd_ hQ;have H6:=hd_ h6;have HLI:=hd_ (fun X=>znu A C l.parts.length r.parts.length a c l.rest r.rest (.slice H n hc) X);have HNA:=hd_ (fun X (hX:Below V1.heap.size V1 X)=>zns false l r h m A B C a b c X (hl.below hX) (hh.below hX) (hr.below hX) hn hsym);obtain⟨x0,x1,x2,x3,x4⟩:=(⟨h1.cell 0,h1.cell 1,h1.cell 2,h1.cell 3,h1.cell 4⟩:V1.cell? ⟨g1,0,none⟩=some (.slice A l.parts.length a)∧V1.cell? ⟨g1,1,none⟩=some (.bool l.rest)∧V1.cell? ⟨g1,2,none⟩=some (.slice C r.parts.length c)∧V1.cell? ⟨g1,3,none⟩=some (.bool r.rest)∧V1.cell? ⟨g1,4,none⟩=some (.slice H n hc));have y0:=h6.c0;have y1:=h6.c1;have hVA:Below V1.heap.size V1 (V1.alloc (.cells #[.bool false,.slice none 0 0,.bool false,.slice none 0 0,.bool false] 119)).drew:=((Below.refl _ _).alloc (Nat.le_refl _) _).drew;have a0:(V1.alloc (.cells #[.bool false,.slice none 0 0,.bool false,.slice none 0 0,.bool false] 119)).drew.cell? ⟨g6,0,none⟩=some (.slice B h.parts.length b):=(h6.low hVA).c0;have a1:(V1.alloc (.cells #[.bool false,.slice none 0 0,.bool false,.slice none 0 0,.bool false] 119)).drew.cell? ⟨g6,1,none⟩=some (.bool h.rest):=(h6.low hVA).c1;have hq:=h1.below hVA h1.lt;obtain⟨b0,b1,b2,b3,b4⟩:=(⟨hq.cell 0,hq.cell 1,hq.cell 2,hq.cell 3,hq.cell 4⟩:(V1.alloc (.cells #[.bool false,.slice none 0 0,.bool false,.slice none 0 0,.bool false] 119)).drew.cell? ⟨g1,0,none⟩=some (.slice A l.parts.length a)∧(V1.alloc (.cells #[.bool false,.slice none 0 0,.bool false,.slice none 0 0,.bool false] 119)).drew.cell? ⟨g1,1,none⟩=some (.bool l.rest)∧(V1.alloc (.cells #[.bool false,.slice none 0 0,.bool false,.slice none 0 0,.bool false] 119)).drew.cell? ⟨g1,2,none⟩=some (.slice C r.parts.length c)∧(V1.alloc (.cells #[.bool false,.slice none 0 0,.bool false,.slice none 0 0,.bool false] 119)).drew.cell? ⟨g1,3,none⟩=some (.bool r.rest)∧(V1.alloc (.cells #[.bool false,.slice none 0 0,.bool false,.slice none 0 0,.bool false] 119)).drew.cell? ⟨g1,4,none⟩=some (.slice H n hc));clear hQ h1 h6 hl hh hr hn hsym hVA hq;refine wp_region_noPanic ?_
  go_region_law (first
    | (go_simp;go_at_call 135;refine (HLI.out _).mono ?_;rintro e w5 ⟨rfl,hX5⟩;have hS5:Below V1.heap.size V1 w5:=(by repeat (first | exact Below.refl _ _ | refine Below.drew ?_ | refine zcf ?_ _):Below V1.heap.size V1 _).trans (hX5.mono (by simp));have z0:w5.cell? ⟨g6,0,none⟩=some (.slice B h.parts.length b):=(H6.out.low hS5).c0;have z1:w5.cell? ⟨g6,1,none⟩=some (.bool h.rest):=(H6.out.low hS5).c1;have z2:(w5.alloc (.cells #[.bool false,.slice none 0 0,.bool false,.slice none 0 0,.bool false] 119)).cell? ⟨g6,0,none⟩=some (.slice B h.parts.length b):=(H6.out.low (hS5.alloc hS5.size _)).c0;have z3:(w5.alloc (.cells #[.bool false,.slice none 0 0,.bool false,.slice none 0 0,.bool false] 119)).cell? ⟨g6,1,none⟩=some (.bool h.rest):=(H6.out.low (hS5.alloc hS5.size _)).c1)
    | (go_simp;go_at_call 183;refine (HNA.out _ (by repeat (first | exact hS5 | refine Below.drew ?_ | refine zcf ?_ _))).mono ?_;rintro e w6 ⟨hX6,A',c',C',d',rfl,-,hin⟩;(try (have hblk:=Blk.below (z0l w5 [.bool false,.slice none 0 0,.bool false,.slice none 0 0,.bool false] 119) hX6 (by simp);have hge:V1.heap.size≤w5.heap.size:=hS5.size;have hS6:=z0r (hS5.alloc hS5.size _) hX6;have qq:=zde hblk;obtain⟨⟨p0,p1,p2,p3,p4⟩,k0,k1,k2,k3,k4⟩:=qq));(try (have hblk:=zdf hX5 hX6;have hge:V1.heap.size≤V1.heap.size:=Nat.le_refl _;have hS6:=z0r hS5 hX6;have qq:=zde hblk;obtain⟨⟨p0,p1,p2,p3,p4⟩,k0,k1,k2,k3,k4⟩:=qq))))
  all_goals refine NoPanic.normal ?_
  all_goals first
    | (have hq9:=rt_end hS6 hblk hge (.bool false) (.slice A' m.parts.length c') (.bool true) (.slice C' (zcv l r m).parts.length d') (.bool true)
       obtain⟨e1,e2,e3⟩:=hq9;exact HQ.out _ _ _ _ _ _ _ _ _ A' C' c' d' _ e1 e2 e3 hge ⟨rt_end2 hblk hin.1,hin.2⟩)
    | (have hS6:=z0r hS5 hX6
       have hnew:=z0l w6 [.bool false,.slice A' m.parts.length c',.bool true,.slice C' (zcv l r m).parts.length d',.bool true] 119;exact HQ.out _ _ _ _ _ _ _ _ _ A' C' c' d' _ (hS6.alloc hS6.size _) (hnew.cell 3) (hnew.cell 4) hS6.size (hin.below ((Below.refl _ _).alloc (Nat.le_refl _) _)))
end
structure Frm (wr w':World)(g gw:Nat)(cv cv':Value):Prop where
 os:w'.os=wr.os
 tape:w'.tape=wr.tape
 output:w'.output=wr.output
 size:wr.heap.size≤w'.heap.size
 block:∀ k,k<wr.heap.size→k≠g→k≠gw→cv.ownBlock≠some k→w'.heap[k]? = wr.heap[k]?
 ob:cv'.ownBlock=cv.ownBlock∨∀ x,cv'.ownBlock=some x→wr.heap.size≤x
theorem Frm.of_kept {wr w':World}{g gw:Nat}{cv:Value}(h:z6t [g] wr w'):Frm wr w' g gw cv cv:=⟨h.os,h.tape,h.output,h.size,fun k hk h1 _ _=>h.block k hk (by simpa using h1),.inl rfl⟩
theorem Frm.trans {w1 w2 w3:World}{g gw:Nat}{a b c:Value}(h:Frm w1 w2 g gw a b)(h2:Frm w2 w3 g gw b c):Frm w1 w3 g gw a c:=by
 refine⟨h2.os.trans h.os,h2.tape.trans h.tape,h2.output.trans h.output,Nat.le_trans h.size h2.size,fun k hk h3 h4 h5=>(h2.block k (Nat.lt_of_lt_of_le hk h.size) h3 h4 ?_).trans (h.block k hk h3 h4 h5),?_⟩
 ·rcases h.ob with e | e
  ·rw[e];exact h5
  ·intro e2;have:=e k e2;omega
 ·rcases h2.ob with e | e
  ·rcases h.ob with e' | e'
   ·exact .inl (e.trans e')
   ·exact .inr fun x hx=>e' x (by rw[← e];exact hx)
  ·exact .inr fun x hx=>Nat.le_trans h.size (e x hx)
theorem Frm.blk {wr w':World}{g gw k:Nat}{cv cv':Value}{e:TypeId}{cs:List Value}(h:Frm wr w' g gw cv cv')(hB:Blk wr k e cs)(h1:k≠g)(h2:k≠gw)(h3:cv.ownBlock≠some k):Blk w' k e cs:=(h.block k hB.lt h1 h2 h3).trans hB
theorem WsB.set_at {w wr:World}{U g gw m k i:Nat}{D:List Rev}{dv dr cv u:Value}{l:List Cnk}(h:WsB w wr U g gw m D dv dr cv l)(h1:w.heap.size≤k)(h2:k≠gw)(h3:cv.ownBlock≠some k)(h4:dv.ownBlock≠some k):WsB w (wr.setCell ⟨k,i,none⟩ u) U g gw m D dv dr cv l:=by
 have hb:Below w.heap.size wr (wr.setCell ⟨k,i,none⟩ u):=(Below.refl _ _).setCell (p:=⟨k,i,none⟩) h1 u;exact⟨h.kept.onto hb,h.tape.onto h.UU hb,h.box.far (p:=⟨k,i,none⟩) h2 u,z4r h.cnk (p:=⟨k,i,none⟩) h3 u,Row.set_far h.revs h4,h.gU,h.UU,h.le,fun x hx=>⟨(h.far x hx).1,Nat.lt_of_lt_of_le (h.far x hx).2.1 hb.size,(h.far x hx).2.2⟩⟩
def WcPost (w wr:World)(U g gw m:Nat)(D:List Rev)(dv dr cv:Value)(n:Nat)(e:Ending)(w':World):Prop:=∃(s z:Nat) (cv':Value) (l':List Cnk),e=.returned (.agg #[.int .u64 s,.int .i64 z])∧WsB w w' U g gw m D dv dr cv' l'∧l'.length≤n+1∧Frm wr w' g gw cv cv'
theorem zpa {w wr:World}{U g gw m:Nat}{D:List Rev}{dv dr cv:Value}{l:List Cnk}(h:WsB w wr U g gw m D dv dr cv l)(hl:l.length≤100000)(hm:m≤90000):
  Calls Tryz.prog 91 #[.pointer (some ⟨gw,0,none⟩),.pointer (some ⟨g,0,none⟩)] wr (WcPost w wr U g gw (m+5) D dv dr cv l.length):=by
 have hA:Below wr.heap.size wr (wr.alloc (.cells #[.int .u64 0,.int .i64 0] 64)):=(Below.refl _ _).alloc (Nat.le_refl _) _;have hX:Blk _ _ 64 [.int .u64 0,.int .i64 0]:=z0l wr _ _;have hg:=h.gU;have hUU:=h.UU;have hle:=h.le;have hbl:=h.box.lt;have HO:Hid (g<wr.heap.size∧gw<wr.heap.size∧(∀ x,cv.ownBlock=some x→x<wr.heap.size)∧U≤wr.heap.size):=hd_ ⟨by omega,hbl,fun x hx=>(h.cnk.lt x hx).2,by omega⟩
 have HDV:Hid (w.heap.size≤wr.heap.size∧∀ x,dv.ownBlock=some x→x<wr.heap.size):=hd_ ⟨h.kept.size,fun x hx=>(h.far x hx).2.1⟩;have HS:=hd_ (h.under hA);have HF:=hd_ (Frm.of_kept (gw:=gw) (cv:=cv) (z6t.below (S:=[g]) hA));have HX:=hd_ hX;have HY:=hd_ (zp8 U g m _ (HS.out.tape) (by have:=hA.size;omega) (by omega))
 clear h hA hX hg hUU hle hbl;go_enter Tryz.func91,Tryz.ntmps91;go_upto_region 1 with fail;generalize wr.alloc (.cells #[.int .u64 0,.int .i64 0] 64)=W1 at HS HF HX HY ⊢;have HG4:=hd_ (rfl:wr.heap.size=wr.heap.size);generalize hg4:wr.heap.size=g4 at HX HO HDV HG4 ⊢;go_wp2_with fail;refine HY.out.mono ?_;rintro e w2 ⟨v5,n,rfl,hn,hM,hT2,hK2⟩;dsimp only;have HS2:=hd_ (HS.out.next hK2 hT2);have HF2:=hd_ (HF.out.trans (Frm.of_kept hK2));have HX2:=hd_ (hK2.blk HX.out (by have:=HO.out.1;simp;omega))
 obtain⟨bs,hbs,hB⟩:=hM.row;obtain⟨A5,c5,rfl⟩:∃ A c,v5=.slice A n c:=by obtain⟨g',cap,cur,fz,e1,-⟩:=hM;exact⟨_,_,e1⟩
 have HOF:=hd_ (rOf_any bs _ w2 hB);rw[hbs] at HOF;clear hM hT2 hK2 hbs hB HY HS HF HX;go_wp2_with fail;refine HOF.out.mono ?_;rintro e w3 ⟨⟨r,rfl⟩,hb3⟩;dsimp only;have hb4:=z0r hb3 ((Below.refl w3.heap.size w3).alloc (Nat.le_refl _) (.cells #[.int .u64 r,.int .i64 n] 64));have HS4:=hd_ (HS2.out.under hb4);have HF4:=hd_ (HF2.out.trans (Frm.of_kept (z6t.below hb4)));have HX4:=hd_ (HX2.out.below hb4 HX2.out.lt);have HI4:Hid (Blk _ _ 64 [.int .u64 r,.int .i64 n]):=hd_ (z0l w3 _ _);have HO4:Hid (g4≠w3.heap.size∧g4<w3.heap.size):=hd_ (by have h1:=HX2.out.lt;have h2:=hb3.size;omega)
 clear hb3 hb4 HS2 HF2 HX2 HOF;go_upto_region 3 with fail;generalize w3.alloc (.cells #[.int .u64 r,.int .i64 n] 64)=W4 at HS4 HF4 HX4 HI4 ⊢;generalize w3.heap.size=g6 at HI4 HO4 ⊢;have x0:W4.cell? ⟨g6,0,none⟩=some (.int .u64 r):=HI4.out.cell 0;have x1:W4.cell? ⟨g6,1,none⟩=some (.int .i64 n):=HI4.out.cell 1;have HFI:=hd_ (zp9 HS4.out r n (by omega))
 go_wp2_with fail;refine HFI.out.mono ?_;rintro e w5 ⟨⟨A6,n6,c6,b,rfl⟩,hb5⟩;dsimp only;have HS5:=hd_ (HS4.out.under hb5);have HF5:=hd_ (HF4.out.trans (Frm.of_kept (z6t.below hb5)));have HX5:=hd_ (HX4.out.below hb5 HX4.out.lt);have HI5:=hd_ (HI4.out.below hb5 HI4.out.lt);clear hb5 x0 x1 HFI HS4 HF4 HX4 HI4;go_upto_if 20 with fail
 go_cut [] (fun wx=>Hid (∃ cv' l',WsB w wx U g gw (m+5) D dv dr cv' l'∧l'.length≤l.length+1∧Frm wr wx g gw cv cv'∧Blk wx g4 64 [.int .u64 0,.int .i64 0]∧Blk wx g6 64 [.int .u64 r,.int .i64 n]))
 case first =>
  cases b with
  | true =>
   go_wp2_with fail;go_meet
   exact hd_ ⟨cv,l,HS5.out,by omega,HF5.out,HX5.out,HI5.out⟩
  | false =>
   obtain⟨Ac,cc,rfl⟩:=z0o HS5.out.cnk;have HEND:Hid (∀ Y W A' c',Below w5.heap.size w5 Y→Y.grownBy W (Value.slice Ac l.length cc).ownBlock→W.ownsRow (gw+1) 207 3 (.slice A' (l.length+1) c') (l.length+1) (l.flatMap Cnk.cells++[.int .u64 r,.int .i64 n,.slice A5 n c5])→((Value.slice A' (l.length+1) c').ownBlock=(Value.slice Ac l.length cc).ownBlock∨(Value.slice A' (l.length+1) c').ownBlock=some Y.heap.size) →
     (W.cell? ⟨gw,2,none⟩=some (.slice Ac l.length cc)∧W.frozen? ⟨gw,2,none⟩=false)∧Hid (∃ cv' l',WsB w (W.setCell ⟨gw,2,none⟩ (.slice A' (l.length+1) c')) U g gw (m+5) D dv dr cv' l'∧l'.length≤l.length+1∧Frm wr (W.setCell ⟨gw,2,none⟩ (.slice A' (l.length+1) c')) g gw (.slice Ac l.length cc) cv'∧Blk (W.setCell ⟨gw,2,none⟩ (.slice A' (l.length+1) c')) g4 64 [.int .u64 0,.int .i64 0]∧Blk (W.setCell ⟨gw,2,none⟩ (.slice A' (l.length+1) c')) g6 64 [.int .u64 r,.int .i64 n])):=hd_ fun Y W A' c' hY hG hOw hob=>by
    have hSY:=HS5.out.under hY;have hne:some gw≠(Value.slice Ac l.length cc).ownBlock:=fun e=>by have:=(HS5.out.cnk.lt gw e.symm).1;omega
    have hbx:=hSY.box.grown hG hne;have hn4:some g4≠(Value.slice Ac l.length cc).ownBlock:=fun e=>by have:=HO.out.2.2.1 g4 e.symm;omega
    have hn6:some g6≠(Value.slice Ac l.length cc).ownBlock:=fun e=>by have:=HO.out.2.2.1 g6 e.symm;have:=HO4.out.2;omega
    have hgw4:gw≠g4:=by have:=HO.out.2.1;omega
    have hgw6:gw≠g6:=by have:=HO.out.2.1;have:=HO4.out.2;omega
    refine⟨⟨hbx.cell 2,hbx.frozen 2⟩,hd_ ⟨_,l++[⟨r,n,A5,n,c5⟩],hSY.turn hG (by rw[List.length_append,List.flatMap_append];exact hOw) hob,by rw[List.length_append];exact Nat.le_refl _,⟨?_,?_,?_,?_,fun k hk h1 h2 h3=>?_,?_⟩,Blk.far ((HX5.out.below hY HX5.out.lt).grown hG hn4) hgw4 _,Blk.far ((HI5.out.below hY HI5.out.lt).grown hG hn6) hgw6 _⟩⟩
    ·exact (hG.os.trans hY.os).trans HF5.out.os
    ·exact (hG.tape.trans hY.tape).trans HF5.out.tape
    ·exact (hG.output.trans hY.output).trans HF5.out.output
    ·have h1:=HF5.out.size;have h2:=hY.size;have h3:=hG.size;have h4:=(z6u W gw 2 (.slice A' (l.length+1) c')).size;omega
    ·have h4:=(z6u W gw 2 (.slice A' (l.length+1) c')).block k (by have:=hG.size;have:=hY.size;have:=HF5.out.size;omega) (by intro e;injection e with e;exact h2 e)
     have h5:=hG.block k (by have:=hY.size;have:=HF5.out.size;omega) (fun e=>h3 e.symm)
     exact h4.trans (h5.trans ((hY.block k (by have:=HF5.out.size;omega)).trans (HF5.out.block k (by omega) h1 h2 h3)))
    ·rcases hob with e | e
     ·exact .inl e
     ·refine .inr fun x hx=>?_;rw[e] at hx;injection hx with hx
      have:=HF5.out.size;have:=hY.size;omega
   have hdr:Below w5.heap.size w5 w5.drew:=(Below.refl _ _).drew;have hda:Below w5.heap.size w5 (w5.alloc (.cells #[.int .u64 r,.int .i64 n,.slice A5 n c5] 207)).drew:=(zcf (Below.refl _ _) _).drew;have HL:Hid (∀ Y,Below w5.heap.size w5 Y→Y.cell? ⟨gw,2,none⟩=some (.slice Ac l.length cc)∧Y.cell? ⟨g6,0,none⟩=some (.int .u64 r)∧Y.cell? ⟨g6,1,none⟩=some (.int .i64 n)):=hd_ fun Y hY=>⟨(HS5.out.box.below hY HS5.out.box.lt).cell 2,(HI5.out.below hY HI5.out.lt).cell 0,(HI5.out.below hY HI5.out.lt).cell 1⟩;have HOW:Hid (∀ Y,Below w5.heap.size w5 Y→Y.ownsRow (gw+1) 207 3 (.slice Ac l.length cc) l.length (l.flatMap Cnk.cells)):=hd_ fun Y hY=>z0n HS5.out.cnk hY;have HDA:=hd_ hda;have HSZ:Hid (gw+1≤(w5.alloc (.cells #[.int .u64 r,.int .i64 n,.slice A5 n c5] 207)).drew.heap.size):=hd_ (by have:=HS5.out.box.lt;have:=hda.size;omega)
   obtain⟨b0,x0,x1⟩:=HL.out w5 (Below.refl _ _);obtain⟨b1,x2,x3⟩:=HL.out _ hdr;obtain⟨b2,x4,x5⟩:=HL.out _ hda;have hl2:l.length≤100000:=hl;go_upto_region 5 with fail;clear hdr hda;refine wp_region_noPanic ?_;go_region_law (first
    | (refine zce (base:=gw+1) rfl rfl cnkElem (HOW.out _ HDA.out) (by simp [Act.eval,Act.put];done) (Row.drew (z0i w5 [.int .u64 r,.int .i64 n,.slice A5 n c5] _ 3 1 rfl (by decide) _ rfl)) (by simp [Act.eval,Act.put];done) (by simp [Value.oneCell']) (by omega) (by unfold maxLen;omega) HSZ.out ?_;intro A' c' w6 hO6 hG6 hw6;obtain⟨⟨k1,k2⟩,hfin⟩:=HEND.out _ _ _ _ HDA.out hG6 hO6 hw6))
   all_goals
    refine NoPanic.normal ?_;go_wp2_with fail;go_meet
    exact hfin
 case rest =>
  obtain⟨cv',l',hS,hll,hF,hX,hI⟩:=hcut.out;have HE:=hd_ (And.intro hS (And.intro hll hF));obtain⟨x0,x1⟩:=(⟨hI.cell 0,hI.cell 1⟩:wc.cell? ⟨g6,0,none⟩=some (.int .u64 r)∧wc.cell? ⟨g6,1,none⟩=some (.int .i64 n));obtain⟨y0,y1⟩:=(⟨hX.cell 0,hX.cell 1⟩:wc.cell? ⟨g4,0,none⟩=some (.int .u64 0)∧wc.cell? ⟨g4,1,none⟩=some (.int .i64 0));obtain⟨f0,f1⟩:=(⟨hX.frozen 0,hX.frozen 1⟩:wc.frozen? ⟨g4,0,none⟩=false∧wc.frozen? ⟨g4,1,none⟩=false);have HX:=hd_ hX;have HNB:Hid (cv'.ownBlock≠some g4):=hd_ (zky hS.cnk hX (by decide))
  clear hcut hS hll hF hX hI HS5 HF5 HX5 HI5;go_wp2_with fail;have hd4:dv.ownBlock≠some g4:=fun e=>by have:=HDV.out.2 g4 e;omega
  have hw4:w.heap.size≤g4:=HDV.out.1;have hn4:g4≠gw:=by have:=HO.out.2.1;omega
  have hE:=(HX.out.set_ 0 (.int .u64 (r:Int))).set_ 1 (.int .i64 (n:Int));have hS8:=(HE.out.1.set_at (k:=g4) (i:=0) (u:=.int .u64 (r:Int)) hw4 hn4 HNB.out hd4).set_at (k:=g4) (i:=1) (u:=.int .i64 (n:Int)) hw4 hn4 HNB.out hd4;have hg1:=z6u wc g4 0 (.int .u64 (r:Int));have hg2:=z6u (wc.setCell ⟨g4,0,none⟩ (.int .u64 (r:Int))) g4 1 (.int .i64 (n:Int));have hF8:Frm wr ((wc.setCell ⟨g4,0,none⟩ (.int .u64 (r:Int))).setCell ⟨g4,1,none⟩ (.int .i64 (n:Int))) g gw cv cv':=by
   have hF:=HE.out.2.2;refine⟨(hg2.os.trans hg1.os).trans hF.os,(hg2.tape.trans hg1.tape).trans hF.tape,(hg2.output.trans hg1.output).trans hF.output,Nat.le_trans hF.size (Nat.le_trans hg1.size hg2.size),fun k hk h1 h2 h3=>?_,hF.ob⟩;have hk4:k≠g4:=by omega
   have hsz:=hF.size;exact (hg2.block k (by have:=hg1.size;omega) (by intro e;injection e with e;exact hk4 e)).trans ((hg1.block k (by omega) (by intro e;injection e with e;exact hk4 e)).trans (hF.block k hk h1 h2 h3))
  clear hg1 hg2;generalize (wc.setCell ⟨g4,0,none⟩ (.int .u64 (r:Int))).setCell ⟨g4,1,none⟩ (.int .i64 (n:Int))=W8 at hE hS8 hF8 ⊢;have e0:=hE.cell 0;have e1:=hE.cell 1;exact bodyPost_ret (v:=.agg #[.int .u64 (r:Int),.int .i64 (n:Int)]) (by simp [results,Tryz.results91,go_sem,e0,e1]) rfl ⟨r,n,cv',l',rfl,hS8,HE.out.2.1,hF8⟩
section
variable {u0 u1 u2 u3 u4 u5 u6 u7 u8 u9 gn gt gu gx gy gz gA gC gD gE gF gG gH gI gJ gK gL gM gN gO gP gQ gR gT gV gW gX gY gZ i6 i7 i8 ia ib ic ie ig ii ij ik il im io ip iq ir iu iv iw ix iy iz iA iB iC iD iE iF iG iH iI iJ iK iL iM iN iO iP iQ iR iS iT iU iV iW iX iY iZ j0 j1 j2 j5 j6 j7 j8 j9 jb jd je jf bw bz bA bB bD bE bF bG bH bI bJ bK bL bM bN bO bP bQ bT bU bV bW bX bY bZ ca cj ck cn cx cy cz cA cB cD cE cG cH cI cJ cM cN cO cP cQ cT cU cW cZ da db dc dd de df dg dh di dj dm du dw dz dA dB dC dD dE dF dG dH dI dJ dK dL dM dN dO dP dQ dR dS dT dU dV dW dX dY dZ ec : Value}
theorem zpb {V W:World}{g:Nat}(h:V.grownBy W (some g))(i:Nat)(u:Value):V.grownBy (W.setCell ⟨g,i,none⟩ u) (some g):=by
 have h2:=z6u W g i u;exact⟨h2.os.trans h.os,h2.tape.trans h.tape,h2.output.trans h.output,Nat.le_trans h.size h2.size,fun k hk hne=>(h2.block k (Nat.lt_of_lt_of_le hk h.size) hne).trans (h.block k hk hne)⟩
theorem zpc {V W:World}{row:Option Nat}(h:V.grownBy W row):V.grownBy W.drew row:=⟨h.os,h.tape,h.output,h.size,h.block⟩
theorem zpd (V:World)(row:Option Nat):V.grownBy V row:=⟨rfl,rfl,rfl,Nat.le_refl _,fun _ _ _=>rfl⟩
theorem chR20 (ops:Array Oper)(hops:Tryz.f59.body.bind (zci 20)=some ops)(Q:Exit→Act→World→Prop)(V:World)(g18 g20:Nat)(v:Rev)(x:Edt)(h18:Blk V g18 66 [.string v.path,.int .i64 v.num,.int .i64 v.chg,.int .i64 v.act,.int .i64 v.ty.base,.bool v.ty.k,.bool v.ty.l,.bool v.ty.x,.int .u64 v.sum,.int .i64 v.size,.string v.frm,.int .i64 v.fnum])(h20:Blk V g20 90 [.string x.path,.int .i64 x.act,.int .i64 x.ty.base,.bool x.ty.k,.bool x.ty.l,.bool x.ty.x,.int .u64 x.sum,.int .i64 x.size,.int .i64 x.base,.string x.frm,.int .i64 x.fnum,.int .i64 x.fence])(hne:g20≠g18)
  (hQ:∀(az aA aB aC:Value) (w':World),Blk w' g20 90 [.string x.path,.int .i64 5,.int .i64 v.ty.base,.bool v.ty.k,.bool v.ty.l,.bool v.ty.x,.int .u64 x.sum,.int .i64 x.size,.int .i64 x.base,.string x.frm,.int .i64 x.fnum,.int .i64 x.fence]→V.grownBy w' (some g20)→Q .normal ⟨#[u0,u1,u2,u3,u4,u5,u6,u7,u8,u9,gn,gt,gu,gx,gy,gz,gA,gC,.pointer (some ⟨g18,0,none⟩),gE,.pointer (some ⟨g20,0,none⟩),gG,gH,gI,gJ,gK,gL,gM,gN,gO,gP,gQ,gR,gT,gV,gW,gX,gY,gZ,i6,i7,i8,ia,ib,ic,ie,ig,ii,ij,ik,il,im,io,ip,iq,ir,iu,iv,iw,ix,iy,iz,iA,iB,iC,iD,iE,iF,iG,iH,iI,iJ,iK,iL,iM,iN,iO,iP,iQ,iR,iS,iT,iU,iV,iW,iX,iY,iZ,j0,j1,j2,j5,j6,j7,j8,j9,jb,jd,je,jf,bw,bz,bA,bB,bD,bE,bF,bG,bH,bI,bJ,bK,bL,bM,bN,bO,bP,bQ,bT,bU,az,aA,aB,aC,bZ,ca,cj,ck,cn,cx,cy,cz,cA,cB,cD,cE,cG,cH,cI,cJ,cM,cN,cO,cP,cQ,cT,cU,cW,cZ,da,db,dc,dd,de,df,dg,dh,di,dj,dm,du,dw,dz,dA,dB,dC,dD,dE,dF,dG,dH,dI,dJ,dK,dL,dM,dN,dO,dP,dQ,dR,dS,dT,dU,dV,dW,dX,dY,dZ,ec],[]⟩ w'):
  (Code.region 20 ops true).wp Tryz.prog Q ⟨#[u0,u1,u2,u3,u4,u5,u6,u7,u8,u9,gn,gt,gu,gx,gy,gz,gA,gC,.pointer (some ⟨g18,0,none⟩),gE,.pointer (some ⟨g20,0,none⟩),gG,gH,gI,gJ,gK,gL,gM,gN,gO,gP,gQ,gR,gT,gV,gW,gX,gY,gZ,i6,i7,i8,ia,ib,ic,ie,ig,ii,ij,ik,il,im,io,ip,iq,ir,iu,iv,iw,ix,iy,iz,iA,iB,iC,iD,iE,iF,iG,iH,iI,iJ,iK,iL,iM,iN,iO,iP,iQ,iR,iS,iT,iU,iV,iW,iX,iY,iZ,j0,j1,j2,j5,j6,j7,j8,j9,jb,jd,je,jf,bw,bz,bA,bB,bD,bE,bF,bG,bH,bI,bJ,bK,bL,bM,bN,bO,bP,bQ,bT,bU,bV,bW,bX,bY,bZ,ca,cj,ck,cn,cx,cy,cz,cA,cB,cD,cE,cG,cH,cI,cJ,cM,cN,cO,cP,cQ,cT,cU,cW,cZ,da,db,dc,dd,de,df,dg,dh,di,dj,dm,du,dw,dz,dA,dB,dC,dD,dE,dF,dG,dH,dI,dJ,dK,dL,dM,dN,dO,dP,dQ,dR,dS,dT,dU,dV,dW,dX,dY,dZ,ec],[]⟩ V:=by
 simp only[Tryz.f59,Option.bind_some,zci] at hops
 simp at hops
 subst hops;have HQ:=hd_ hQ;have H20:=hd_ h20;obtain⟨r0,r1,r2,r3,r4,r5,r6,r7,r8,r9,r10,r11⟩:=z7z h18;obtain⟨x0,x1,x2,x3,x4,x5,x6,x7,x8,x9,x10,x11⟩:=z7z h20;obtain⟨f0,f1,f2,f3,f4,f5,f6,f7,f8,f9,f10,f11⟩:=zdz h20;have hne2:¬(g18=g20):=fun e=>hne e.symm;clear hQ h18 h20;refine wp_region_noPanic ?_;go_region_law (fail)
 all_goals refine NoPanic.normal ?_
 all_goals exact HQ.out _ _ _ _ _ (Blk.drew' ((((((H20.out).set_ 1 (.int .i64 5)).set_ 2 (.int .i64 v.ty.base)).set_ 3 (.bool v.ty.k)).set_ 4 (.bool v.ty.l)).set_ 5 (.bool v.ty.x))) (zpc (zpb (zpb (zpb (zpb (zpb (zpd _ _) 1 (.int .i64 5)) 2 (.int .i64 v.ty.base)) 3 (.bool v.ty.k)) 4 (.bool v.ty.l)) 5 (.bool v.ty.x)))
theorem chR30 (ops:Array Oper)(hops:Tryz.f59.body.bind (zci 30)=some ops)(Q:Exit→Act→World→Prop)(V:World)(g18 g20:Nat)(v:Rev)(x:Edt)(h18:Blk V g18 66 [.string v.path,.int .i64 v.num,.int .i64 v.chg,.int .i64 v.act,.int .i64 v.ty.base,.bool v.ty.k,.bool v.ty.l,.bool v.ty.x,.int .u64 v.sum,.int .i64 v.size,.string v.frm,.int .i64 v.fnum])(h20:Blk V g20 90 [.string x.path,.int .i64 x.act,.int .i64 x.ty.base,.bool x.ty.k,.bool x.ty.l,.bool x.ty.x,.int .u64 x.sum,.int .i64 x.size,.int .i64 x.base,.string x.frm,.int .i64 x.fnum,.int .i64 x.fence])(hne:g20≠g18)
  (hQ:∀(bh bi bj bq:Value) (w':World),Blk w' g20 90 [.string x.path,.int .i64 3,.int .i64 v.ty.base,.bool v.ty.k,.bool v.ty.l,.bool v.ty.x,.int .u64 x.sum,.int .i64 x.size,.int .i64 x.base,.string x.frm,.int .i64 x.fnum,.int .i64 x.fence]→V.grownBy w' (some g20)→Q .normal ⟨#[u0,u1,u2,u3,u4,u5,u6,u7,u8,u9,gn,gt,gu,gx,gy,gz,gA,gC,.pointer (some ⟨g18,0,none⟩),gE,.pointer (some ⟨g20,0,none⟩),gG,gH,gI,gJ,gK,gL,gM,gN,gO,gP,gQ,gR,gT,gV,gW,gX,gY,gZ,i6,i7,i8,ia,ib,ic,ie,ig,ii,ij,ik,il,im,io,ip,iq,ir,iu,iv,iw,ix,iy,iz,iA,iB,iC,iD,iE,iF,iG,iH,iI,iJ,iK,iL,iM,iN,iO,iP,iQ,iR,iS,iT,iU,iV,iW,iX,iY,iZ,j0,j1,j2,j5,j6,j7,j8,j9,jb,jd,je,jf,bw,bz,bA,bB,bD,bE,bF,bG,bH,bI,bJ,bK,bL,bM,bN,bO,bP,bQ,bT,bU,bV,bW,bX,bY,bZ,ca,cj,ck,cn,cx,cy,cz,cA,cB,cD,cE,cG,cH,cI,cJ,cM,cN,cO,cP,cQ,cT,cU,cW,cZ,da,db,dc,dd,de,df,dg,dh,di,dj,dm,du,dw,dz,dA,dB,dC,dD,dE,dF,dG,dH,dI,dJ,dK,dL,dM,dN,dO,dP,bh,bi,bj,bq,dU,dV,dW,dX,dY,dZ,ec],[]⟩ w'):
  (Code.region 30 ops true).wp Tryz.prog Q ⟨#[u0,u1,u2,u3,u4,u5,u6,u7,u8,u9,gn,gt,gu,gx,gy,gz,gA,gC,.pointer (some ⟨g18,0,none⟩),gE,.pointer (some ⟨g20,0,none⟩),gG,gH,gI,gJ,gK,gL,gM,gN,gO,gP,gQ,gR,gT,gV,gW,gX,gY,gZ,i6,i7,i8,ia,ib,ic,ie,ig,ii,ij,ik,il,im,io,ip,iq,ir,iu,iv,iw,ix,iy,iz,iA,iB,iC,iD,iE,iF,iG,iH,iI,iJ,iK,iL,iM,iN,iO,iP,iQ,iR,iS,iT,iU,iV,iW,iX,iY,iZ,j0,j1,j2,j5,j6,j7,j8,j9,jb,jd,je,jf,bw,bz,bA,bB,bD,bE,bF,bG,bH,bI,bJ,bK,bL,bM,bN,bO,bP,bQ,bT,bU,bV,bW,bX,bY,bZ,ca,cj,ck,cn,cx,cy,cz,cA,cB,cD,cE,cG,cH,cI,cJ,cM,cN,cO,cP,cQ,cT,cU,cW,cZ,da,db,dc,dd,de,df,dg,dh,di,dj,dm,du,dw,dz,dA,dB,dC,dD,dE,dF,dG,dH,dI,dJ,dK,dL,dM,dN,dO,dP,dQ,dR,dS,dT,dU,dV,dW,dX,dY,dZ,ec],[]⟩ V:=by
 simp only[Tryz.f59,Option.bind_some,zci] at hops
 simp at hops
 subst hops;have HQ:=hd_ hQ;have H20:=hd_ h20;obtain⟨r0,r1,r2,r3,r4,r5,r6,r7,r8,r9,r10,r11⟩:=z7z h18;obtain⟨x0,x1,x2,x3,x4,x5,x6,x7,x8,x9,x10,x11⟩:=z7z h20;obtain⟨f0,f1,f2,f3,f4,f5,f6,f7,f8,f9,f10,f11⟩:=zdz h20;have hne2:¬(g18=g20):=fun e=>hne e.symm;clear hQ h18 h20;refine wp_region_noPanic ?_;go_region_law (fail)
 all_goals refine NoPanic.normal ?_
 all_goals exact HQ.out _ _ _ _ _ (Blk.drew' ((((((H20.out).set_ 1 (.int .i64 3)).set_ 2 (.int .i64 v.ty.base)).set_ 3 (.bool v.ty.k)).set_ 4 (.bool v.ty.l)).set_ 5 (.bool v.ty.x))) (zpc (zpb (zpb (zpb (zpb (zpb (zpd _ _) 1 (.int .i64 3)) 2 (.int .i64 v.ty.base)) 3 (.bool v.ty.k)) 4 (.bool v.ty.l)) 5 (.bool v.ty.x)))
end
end Go.Proofs.YtegeboijhifmcaaGreatDoor
