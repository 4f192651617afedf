/- A part. -/
import Derived.Test.YtijghobkkdbhnaaGreatDoorMgw14
import Derived.Test.YtijghobkkdbhnaaGreatDoorMgw18
set_option linter.unusedVariables false
set_option linter.unusedSimpArgs false
set_option maxHeartbeats 8000000
set_option maxRecDepth 100000
namespace Go.Proofs.YtijghobkkdbhnaaGreatDoor
open Go.Proofs.Tryz
open Go.RowKit
section
variable {u0 u1 u2 u3 u4 u5 u6 u7 u8 u9 gz gA gC gD gE gF gG gH gI gJ gK gL gM gN gO gP gQ gR gT gV gW gX gY gZ i6 i7 i8 ia ib ic ie : Value}
theorem zdi:z0e prog 69 68 2 32:=z0f underlying69 (z:=.agg #[.slice none 0 0,.bool false]) (by kernel_rfl) rfl (by decide)
theorem zdj {W:World}{g:Nat}{v0 v1 v2 v3 v4:Value}(h:Blk W g 74 [v0,v1,v2,v3,v4]):(W.cell? ⟨g,0,none⟩=some v0∧W.cell? ⟨g,1,none⟩=some v1∧W.cell? ⟨g,2,none⟩=some v2∧W.cell? ⟨g,3,none⟩=some v3∧W.cell? ⟨g,4,none⟩=some v4)∧W.frozen? ⟨g,0,none⟩=false∧W.frozen? ⟨g,1,none⟩=false∧W.frozen? ⟨g,2,none⟩=false∧W.frozen? ⟨g,3,none⟩=false∧W.frozen? ⟨g,4,none⟩=false:=
  ⟨⟨h.cell 0,h.cell 1,h.cell 2,h.cell 3,h.cell 4⟩,h.frozen 0,h.frozen 1,h.frozen 2,h.frozen 3,h.frozen 4⟩
theorem zdk {V1 w5 w6:World}(hX5:Below (V1.alloc (.cells #[.bool false,.slice none 0 0,.bool false,.slice none 0 0,.bool false] 74)).drew.heap.size (V1.alloc (.cells #[.bool false,.slice none 0 0,.bool false,.slice none 0 0,.bool false] 74)).drew w5)(hX6:Below w5.heap.size w5 w6):Blk w6 V1.heap.size 74 [.bool false,.slice none 0 0,.bool false,.slice none 0 0,.bool false]:=by
  have h0:Blk (V1.alloc (.cells #[.bool false,.slice none 0 0,.bool false,.slice none 0 0,.bool false] 74)).drew V1.heap.size 74 [.bool false,.slice none 0 0,.bool false,.slice none 0 0,.bool false]:=z0l V1 _ _;have h1:=Blk.below h0 hX5 (Blk.lt h0);exact Blk.below h1 hX6 (Blk.lt h1)
theorem rt_end {V1 w6:World}{g:Nat}{v0 v1 v2 v3 v4:Value}(hb:Below V1.heap.size V1 w6)(hB:Blk w6 g 74 [v0,v1,v2,v3,v4])(hg:V1.heap.size≤g)(u0 u1 u2 u3 u4:Value):
    Below V1.heap.size V1 (((((w6.setCell ⟨g,0,none⟩ u0).setCell ⟨g,1,none⟩ u1).setCell ⟨g,2,none⟩ u2).setCell ⟨g,3,none⟩ u3).setCell ⟨g,4,none⟩ u4)∧(((((w6.setCell ⟨g,0,none⟩ u0).setCell ⟨g,1,none⟩ u1).setCell ⟨g,2,none⟩ u2).setCell ⟨g,3,none⟩ u3).setCell ⟨g,4,none⟩ u4).cell? ⟨g,3,none⟩=some u3∧(((((w6.setCell ⟨g,0,none⟩ u0).setCell ⟨g,1,none⟩ u1).setCell ⟨g,2,none⟩ u2).setCell ⟨g,3,none⟩ u3).setCell ⟨g,4,none⟩ u4).cell? ⟨g,4,none⟩=some u4:=by
  have hE:=((((hB.set_ 0 u0).set_ 1 u1).set_ 2 u2).set_ 3 u3).set_ 4 u4;exact⟨((((hb.setCell (p:=⟨g,0,none⟩) hg u0).setCell (p:=⟨g,1,none⟩) hg u1).setCell (p:=⟨g,2,none⟩) hg u2).setCell (p:=⟨g,3,none⟩) hg u3).setCell (p:=⟨g,4,none⟩) hg u4,hE.cell 3,hE.cell 4⟩
theorem rtR5 (ops:Array Oper)(hops:Tryz.f67.body.bind (zcn 5)=some ops)(Q:Exit→Act→World→Prop)(l r h m:Pat)(A B C H:Option Addr)(a b c n hc g1 g6:Nat)(V1:World)
    (h1:Blk V1 g1 71 [.slice A l.parts.length a,.bool true,.slice C r.parts.length c,.bool true,.slice H n hc]) (h6:zbt V1 g6 (.slice B h.parts.length b) h.rest)
    (hl:zae V1 (.slice A l.parts.length a) l) (hh:zae V1 (.slice B h.parts.length b) h) (hr:zae V1 (.slice C r.parts.length c) r) (hn:zd1 l r h m)
    (hQ:∀(eB eC eD eE eF eG eH eI:Value) (g7:Nat) (A' C':Option Addr) (a' c':Nat) (w':World),Below V1.heap.size V1 w'→w'.cell? ⟨g7,3,none⟩=some (.slice C' (zd0 l r m).parts.length c')→w'.cell? ⟨g7,4,none⟩=some (.bool true)→V1.heap.size≤g7→Q .normal ⟨#[u0,.pointer (some ⟨g1,0,none⟩),u2,u3,u4,u5,.pointer (some ⟨g6,0,none⟩),.pointer (some ⟨g7,0,none⟩),.bool true,.int .i64 0,gz,gA,gC,gD,gE,gF,gG,gH,gI,gJ,eB,eC,eD,eE,eF,eG,eH,eI,gT,gV,gW,gX,gY,gZ,i6,i7,i8,ia,ib,ic,ie],[]⟩ w'):
    (Code.region 5 ops true).wp prog Q ⟨#[u0,.pointer (some ⟨g1,0,none⟩),u2,u3,u4,u5,.pointer (some ⟨g6,0,none⟩),u7,u8,u9,gz,gA,gC,gD,gE,gF,gG,gH,gI,gJ,gK,gL,gM,gN,gO,gP,gQ,gR,gT,gV,gW,gX,gY,gZ,i6,i7,i8,ia,ib,ic,ie],[]⟩ V1:=by
  simp only[Tryz.f67,Option.bind_some,zcn] at hops
  simp at hops
  subst hops;have HQ:=hd_ hQ;have H6:=hd_ h6;have HLI:=hd_ (fun X=>zdf A C l.parts.length r.parts.length a c true true (.slice H n hc) X);have HNA:=hd_ (fun X (hX:Below V1.heap.size V1 X)=>zd5 false l r h m A B C a b c X (hl.below hX) (hh.below hX) (hr.below hX) hn);obtain⟨x0,x1,x2,x3,x4⟩:=(⟨h1.cell 0,h1.cell 1,h1.cell 2,h1.cell 3,h1.cell 4⟩:V1.cell? ⟨g1,0,none⟩=some (.slice A l.parts.length a)∧V1.cell? ⟨g1,1,none⟩=some (.bool true)∧V1.cell? ⟨g1,2,none⟩=some (.slice C r.parts.length c)∧V1.cell? ⟨g1,3,none⟩=some (.bool true)∧V1.cell? ⟨g1,4,none⟩=some (.slice H n hc));have y0:=h6.c0;have y1:=h6.c1;have hVA:Below V1.heap.size V1 (V1.alloc (.cells #[.bool false,.slice none 0 0,.bool false,.slice none 0 0,.bool false] 74)).drew:=((Below.refl _ _).alloc (Nat.le_refl _) _).drew;have a0:(V1.alloc (.cells #[.bool false,.slice none 0 0,.bool false,.slice none 0 0,.bool false] 74)).drew.cell? ⟨g6,0,none⟩=some (.slice B h.parts.length b):=(h6.low hVA).c0;have a1:(V1.alloc (.cells #[.bool false,.slice none 0 0,.bool false,.slice none 0 0,.bool false] 74)).drew.cell? ⟨g6,1,none⟩=some (.bool h.rest):=(h6.low hVA).c1;have hq:=h1.below hVA h1.lt;obtain⟨b0,b1,b2,b3,b4⟩:=(⟨hq.cell 0,hq.cell 1,hq.cell 2,hq.cell 3,hq.cell 4⟩:(V1.alloc (.cells #[.bool false,.slice none 0 0,.bool false,.slice none 0 0,.bool false] 74)).drew.cell? ⟨g1,0,none⟩=some (.slice A l.parts.length a)∧(V1.alloc (.cells #[.bool false,.slice none 0 0,.bool false,.slice none 0 0,.bool false] 74)).drew.cell? ⟨g1,1,none⟩=some (.bool true)∧(V1.alloc (.cells #[.bool false,.slice none 0 0,.bool false,.slice none 0 0,.bool false] 74)).drew.cell? ⟨g1,2,none⟩=some (.slice C r.parts.length c)∧(V1.alloc (.cells #[.bool false,.slice none 0 0,.bool false,.slice none 0 0,.bool false] 74)).drew.cell? ⟨g1,3,none⟩=some (.bool true)∧(V1.alloc (.cells #[.bool false,.slice none 0 0,.bool false,.slice none 0 0,.bool false] 74)).drew.cell? ⟨g1,4,none⟩=some (.slice H n hc));clear hQ h1 h6 hl hh hr hn hVA hq;refine wp_region_noPanic ?_;go_region_law (first
    | (go_simp;go_at_call 120;refine (HLI.out _).mono ?_;rintro e w5 ⟨rfl,hX5⟩;have hS5:Below V1.heap.size V1 w5:=(by repeat (first | exact Below.refl _ _ | refine Below.drew ?_ | refine zck ?_ _):Below V1.heap.size V1 _).trans (hX5.mono (by simp));have z0:w5.cell? ⟨g6,0,none⟩=some (.slice B h.parts.length b):=(H6.out.low hS5).c0;have z1:w5.cell? ⟨g6,1,none⟩=some (.bool h.rest):=(H6.out.low hS5).c1;have z2:(w5.alloc (.cells #[.bool false,.slice none 0 0,.bool false,.slice none 0 0,.bool false] 74)).cell? ⟨g6,0,none⟩=some (.slice B h.parts.length b):=(H6.out.low (hS5.alloc hS5.size _)).c0;have z3:(w5.alloc (.cells #[.bool false,.slice none 0 0,.bool false,.slice none 0 0,.bool false] 74)).cell? ⟨g6,1,none⟩=some (.bool h.rest):=(H6.out.low (hS5.alloc hS5.size _)).c1)
    | (go_simp;go_at_call 122;refine (HNA.out _ (by repeat (first | exact hS5 | refine Below.drew ?_ | refine zck ?_ _))).mono ?_;rintro e w6 ⟨hX6,A',c',C',d',rfl,-,-⟩;(try (have hblk:=Blk.below (z0l w5 [.bool false,.slice none 0 0,.bool false,.slice none 0 0,.bool false] 74) hX6 (by simp);have hge:V1.heap.size≤w5.heap.size:=hS5.size;have hS6:=z0r (hS5.alloc hS5.size _) hX6;have qq:=zdj hblk;obtain⟨⟨p0,p1,p2,p3,p4⟩,k0,k1,k2,k3,k4⟩:=qq));(try (have hblk:=zdk hX5 hX6;have hge:V1.heap.size≤V1.heap.size:=Nat.le_refl _;have hS6:=z0r hS5 hX6;have qq:=zdj hblk;obtain⟨⟨p0,p1,p2,p3,p4⟩,k0,k1,k2,k3,k4⟩:=qq))))
  all_goals refine NoPanic.normal ?_
  all_goals first
    | (have hq9:=rt_end hS6 hblk hge (.bool false) (.slice A' m.parts.length c') (.bool true) (.slice C' (zd0 l r m).parts.length d') (.bool true)
       obtain⟨e1,e2,e3⟩:=hq9;exact HQ.out _ _ _ _ _ _ _ _ _ A' C' c' d' _ e1 e2 e3 hge)
    | (have hS6:=z0r hS5 hX6
       have hnew:=z0l w6 [.bool false,.slice A' m.parts.length c',.bool true,.slice C' (zd0 l r m).parts.length d',.bool true] 74;exact HQ.out _ _ _ _ _ _ _ _ _ A' C' c' d' _ (hS6.alloc hS6.size _) (hnew.cell 3) (hnew.cell 4) hS6.size)
end
structure RtSt (w wr:World)(ce:List Value)(rv:Value)(rb:Bool)(v:Value)(n:Nat)(xs:List Value):Prop where
 low:Below w.heap.size w wr
 ent:Blk wr w.heap.size 71 ce
 res:Blk wr (w.heap.size+1) 78 [.slice none 0 0,.bool false,.slice none 0 0]
 box:Blk wr (w.heap.size+1+1) 78 [rv,.bool rb,v]
 own:wr.ownsRow (w.heap.size+1+1+1) 68 2 v n xs
theorem RtSt.under {w wr wx:World}{ce:List Value}{rv:Value}{rb:Bool}{v:Value}{n:Nat}{xs:List Value}(h:RtSt w wr ce rv rb v n xs)(hb:Below wr.heap.size wr wx):RtSt w wx ce rv rb v n xs:=
 ⟨z0r h.low hb,h.ent.below hb h.ent.lt,h.res.below hb h.res.lt,h.box.below hb h.box.lt,z0n h.own hb⟩
theorem RtSt.push {w wr w2:World}{ce:List Value}{rv:Value}{rb:Bool}{v:Value}{n:Nat}{xs ys:List Value}{A':Option Addr}{c':Nat}(h:RtSt w wr ce rv rb v n xs)
  (hown:w2.ownsRow (w.heap.size+1+1+1) 68 2 (.slice A' (n+1) c') (n+1) (xs++ys)) (hgr:wr.grownBy w2 v.ownBlock)
  (hob:(Value.slice A' (n+1) c').ownBlock=v.ownBlock∨(Value.slice A' (n+1) c').ownBlock=some wr.heap.size):
  RtSt w (w2.setCell ⟨w.heap.size+1+1,2,none⟩ (.slice A' (n+1) c')) ce rv rb (.slice A' (n+1) c') (n+1) (xs++ys):=by
 have hl:=h.box.lt;have hb1:∀ k,v.ownBlock=some k→w.heap.size+1+1<k:=fun k e=>by have:=(h.own.lt k e).1;omega
 have hne:(Value.slice A' (n+1) c').ownBlock≠some (w.heap.size+1+1):=by
  rcases hob with e | e
  ·rw[e];exact fun e=>by have:=hb1 _ e;omega
  ·rw[e];intro e2;injection e2 with e2;omega
 refine⟨(h.low.grown hgr h.low.size (fun k e=>by have:=hb1 k e;omega)).setCell (p:=⟨w.heap.size+1+1,2,none⟩) (by show w.heap.size≤w.heap.size+1+1;omega) _,Blk.far (Blk.grown h.ent hgr (fun e=>by have:=hb1 _ e.symm;omega)) (by show w.heap.size+1+1≠w.heap.size;omega) _,Blk.far (Blk.grown h.res hgr (fun e=>by have:=hb1 _ e.symm;omega)) (by show w.heap.size+1+1≠w.heap.size+1;omega) _,(Blk.grown h.box hgr (fun e=>by have:=hb1 _ e.symm;omega)).set_ 2 _,z4r hown (p:=⟨w.heap.size+1+1,2,none⟩) hne _⟩
def RtPost (w:World)(rv:Value)(rb:Bool)(e:Ending)(w':World):Prop:=Below w.heap.size w w'∧∃ A n c,e=.returned (.tuple #[.agg #[rv,.bool rb,.slice A n c],.int .i64 0])
theorem zdl (l r:Pat)(hs:List zd6)(A C H:Option Addr)(a c hc:Nat)(w:World)(hl:zae w (.slice A l.parts.length a) l)(hr:zae w (.slice C r.parts.length c) r)(hh:zd7 w (.slice H hs.length hc) hs)(hn:hs.length≤1000)(hN:∀ q∈hs,∃ m,zd1 l r q.1 m):
  Calls prog 67 #[.agg #[.slice A l.parts.length a,.bool l.rest,.slice C r.parts.length c,.bool r.rest,.slice H hs.length hc]] w (RtPost w (.slice C r.parts.length c) r.rest):=by
 obtain⟨W1,hW1⟩:∃ W,W=(w.alloc (.cells #[.slice A l.parts.length a,.bool l.rest,.slice C r.parts.length c,.bool r.rest,.slice H hs.length hc] 71)).alloc (.cells #[.slice none 0 0,.bool false,.slice none 0 0] 78):=⟨_,rfl⟩;have hA:Below w.heap.size w W1:=by rw[hW1];exact ((Below.refl _ _).alloc (Nat.le_refl _) _).alloc (by simp) _
 have h1:Blk W1 w.heap.size 71 [.slice A l.parts.length a,.bool l.rest,.slice C r.parts.length c,.bool r.rest,.slice H hs.length hc]:=by rw[hW1];exact (z0l w _ _).alloc _
 have h2:Blk W1 (w.heap.size+1) 78 [.slice none 0 0,.bool false,.slice none 0 0]:=by
  rw[hW1];have:=z0l (w.alloc (.cells #[.slice A l.parts.length a,.bool l.rest,.slice C r.parts.length c,.bool r.rest,.slice H hs.length hc] 71)) [.slice none 0 0,.bool false,.slice none 0 0] 78;simp only[World.size_alloc] at this
  exact this
 have hs1:W1.heap.size=w.heap.size+1+1:=by rw[hW1];simp
 have HS:Hid (RtSt w (W1.alloc (.cells #[.slice C r.parts.length c,.bool r.rest,.slice none 0 0] 78)) [.slice A l.parts.length a,.bool l.rest,.slice C r.parts.length c,.bool r.rest,.slice H hs.length hc] (.slice C r.parts.length c) r.rest (.slice none 0 0) 0 []):=hd_ (by
  refine⟨hA.alloc hA.size _,h1.alloc _,h2.alloc _,?_,World.ownsRow_nil _ _ _ _⟩;have:=z0l W1 [.slice C r.parts.length c,.bool r.rest,.slice none 0 0] 78;rw[hs1] at this;exact this)
 obtain⟨y2,y3⟩:=(⟨h1.cell 2,h1.cell 3⟩:W1.cell? ⟨w.heap.size,2,none⟩=some (.slice C r.parts.length c)∧W1.cell? ⟨w.heap.size,3,none⟩=some (.bool r.rest));have HL:=hd_ hl;have HR:=hd_ hr;have HH:=hd_ hh;have HNN:=hd_ hN;have HW1:=hd_ hW1;have HS1:=hd_ hs1;clear hl hr hh hN hW1 hA h1 h2 hs1;go_enter func67,ntmps67;go_upto_region 1 with fail;rw[← HW1.out];go_upto_region 2 with fail;rw[HS1.out];generalize W1.alloc (.cells #[.slice C r.parts.length c,.bool r.rest,.slice none 0 0] 78)=W3 at HS ⊢;clear y2 y3;have y4:W3.cell? ⟨w.heap.size,4,none⟩=some (.slice H hs.length hc):=HS.out.ent.cell 4;go_wp2_with fail;go_loopw [16] (fun i wr=>∃(k n:Nat) (v:Value) (xs:List Value),i=.int .i64 k∧k≤hs.length∧n≤k∧Hid (RtSt w wr [.slice A l.parts.length a,.bool l.rest,.slice C r.parts.length c,.bool r.rest,.slice H hs.length hc] (.slice C r.parts.length c) r.rest v n xs)) (fun i _=>hs.length - (intOf i).toNat)
 case atStart=>exact⟨0,0,_,_,rfl,Nat.zero_le _,Nat.le_refl _,HS⟩
 case round =>
  obtain⟨k,n,v,xs,rfl,hk,hnk,HI⟩:=hrel;clear y4 HS;by_cases hlt:k<hs.length
  ·have HHX:=hd_ (HH.out.below HI.out.low);obtain⟨ad,rfl,hab,s0,s1⟩:=HHX.out.at_ hlt;have HPK:=hd_ (HHX.out.2 hs[k] (List.getElem_mem hlt));obtain⟨m,hm⟩:=HNN.out hs[k] (List.getElem_mem hlt);generalize hs[k]=q at s0 s1 HPK hm;obtain⟨q,Aq,cq⟩:=q;change wr.cell? _=some (.slice Aq q.parts.length cq) at s0;change wr.cell? _=some (.bool q.rest) at s1;change zd1 l r q m at hm;have HM:=hd_ hm;have HX:=hd_ (HI.out.under ((Below.refl wr.heap.size wr).alloc (Nat.le_refl _) (.cells #[.slice Aq q.parts.length cq,.bool q.rest] 68)));have HB6:Hid (zbt (wr.alloc (.cells #[.slice Aq q.parts.length cq,.bool q.rest] 68)) wr.heap.size (.slice Aq q.parts.length cq) q.rest):=hd_ (z0l wr [.slice Aq q.parts.length cq,.bool q.rest] _);have HPQ:Hid (zae (wr.alloc (.cells #[.slice Aq q.parts.length cq,.bool q.rest] 68)) (.slice Aq q.parts.length cq) q):=hd_ (zae.below HPK.out ((Below.refl wr.heap.size wr).alloc (Nat.le_refl _) _));have e1:l.rest=true:=hm.nl.rest;have e2:r.rest=true:=hm.nr.rest;rw[e1,e2] at HX;clear hab hm e1 e2;have HLT:=hd_ hlt;go_upto_region 5 with fail;generalize wr.alloc (.cells #[.slice Aq q.parts.length cq,.bool q.rest] 68)=W6 at HX HB6 HPQ ⊢;generalize wr.heap.size=g6 at HB6 ⊢;clear s0 s1;refine rtR5 _ (by kernel_rfl) _ l r q m A Aq C (some ad) a cq c hs.length hc w.heap.size g6 W6 HX.out.ent HB6.out (HL.out.below HX.out.low) HPQ.out (HR.out.below HX.out.low) HM.out ?_
   intro eB eC eD eE eF eG eH eI g7 A' C' a' c' w' hb' hc3 hc4 hg7;have HX7:=hd_ (HX.out.under hb');have HC3:=hd_ hc3;have HV:Hid (∃ A n2 c2,v=.slice A n2 c2):=hd_ (by obtain⟨A0,c0,e⟩:=z0o HX.out.own;exact⟨_,_,_,e⟩)
   obtain⟨Av,cv,rfl⟩:=z0o HX.out.own;have z2:w'.cell? ⟨w.heap.size+1+1,2,none⟩=some (.slice Av n cv):=HX7.out.box.cell 2;clear hb' hg7 HV;have HX8:=hd_ (HX7.out.under ((Below.refl w'.heap.size w').alloc (Nat.le_refl _) (.cells #[.slice C' (zd0 l r m).parts.length c',.bool true] 68)));have hrow:=z0i w' [.slice C' (zd0 l r m).parts.length c',.bool true] 68 2 1 rfl (by decide) _ rfl
   have hsz:w.heap.size+1+1+1≤(w'.alloc (.cells #[.slice C' (zd0 l r m).parts.length c',.bool true] 68)).heap.size:=by have:=HX7.out.box.lt;simp;omega
   go_wp2_with (at_builtin;refine z0j rfl rfl zdi HX8.out.own rfl hrow rfl (by simp [Value.oneCell']) (by omega) (by unfold maxLen;omega) hsz ?_;intro A9 c9 w9 hown hgr hob;have HP:=hd_ (HX8.out.push hown hgr hob);have hbw:=Blk.grown HX8.out.box hgr (fun e=>by have:=(HX8.out.own.lt _ e.symm).1;omega);have hfz:=hbw.frozen 2;have hcl:w9.cell? ⟨w.heap.size+1+1,2,none⟩=some (.slice Av n cv):=hbw.cell 2)
   go_roundw
   case rel=>exact⟨k+1,n+1,.slice A9 (n+1) c9,xs++[.slice C' (zd0 l r m).parts.length c',.bool true],by go_num,by omega,by omega,by rw[HM.out.nl.rest,HM.out.nr.rest];exact HP⟩
   case measure=>simp [intOf];omega
  ·have hke:k=hs.length:=by omega
   subst hke;obtain⟨Av,cv,rfl⟩:=z0o HI.out.own;obtain⟨d0,d1,d2⟩:=(⟨HI.out.box.cell 0,HI.out.box.cell 1,HI.out.box.cell 2⟩:wr.cell? ⟨w.heap.size+1+1,0,none⟩=some (.slice C r.parts.length c)∧wr.cell? ⟨w.heap.size+1+1,1,none⟩=some (.bool r.rest)∧wr.cell? ⟨w.heap.size+1+1,2,none⟩=some (.slice Av n cv));obtain⟨z0,z1,z2⟩:=(⟨HI.out.res.cell 0,HI.out.res.cell 1,HI.out.res.cell 2⟩:wr.cell? ⟨w.heap.size+1,0,none⟩=some (.slice none 0 0)∧wr.cell? ⟨w.heap.size+1,1,none⟩=some (.bool false)∧wr.cell? ⟨w.heap.size+1,2,none⟩=some (.slice none 0 0));obtain⟨f0,f1,f2⟩:=(⟨HI.out.res.frozen 0,HI.out.res.frozen 1,HI.out.res.frozen 2⟩:wr.frozen? ⟨w.heap.size+1,0,none⟩=false∧wr.frozen? ⟨w.heap.size+1,1,none⟩=false∧wr.frozen? ⟨w.heap.size+1,2,none⟩=false);have hge:¬((hs.length:Int)<(hs.length:Int)):=by omega
   go_wp2_with fail;have hE:=((HI.out.res.set_ 0 (.slice C r.parts.length c)).set_ 1 (.bool r.rest)).set_ 2 (.slice Av n cv);have hb:=((HI.out.low.setCell (p:=⟨w.heap.size+1,0,none⟩) (by simp) (.slice C r.parts.length c)).setCell (p:=⟨w.heap.size+1,1,none⟩) (by simp) (.bool r.rest)).setCell (p:=⟨w.heap.size+1,2,none⟩) (by simp) (.slice Av n cv)
   generalize ((wr.setCell ⟨w.heap.size+1,0,none⟩ (.slice C r.parts.length c)).setCell ⟨w.heap.size+1,1,none⟩ (.bool r.rest)).setCell ⟨w.heap.size+1,2,none⟩ (.slice Av n cv)=W8 at hE hb ⊢;have e0:=hE.cell 0;have e1:=hE.cell 1;have e2:=hE.cell 2;exact bodyPost_ret (v:=.tuple #[.agg #[.slice C r.parts.length c,.bool r.rest,.slice Av n cv],.int .i64 0]) (by simp [results,results67,go_sem,e0,e1,e2]) rfl ⟨hb,Av,n,cv,rfl⟩
open Go.Sort (grow)
section
variable {u0 u1 u2 u3 u4 u5 u6 u7 u8 u9 gz gA gC gD gE gF gG gH gI gJ gK gL gM gN gO gP gQ gR gT gV gW gX gY gZ i6 i7 i8 ia ib ic ie ig ii ij ik il im io ip iq ir iu iv iw ix iy iz iA iB iC iD iE iF iG iH iI iJ iK iL iM iN iO iP iQ iR iS iT iU iV iW iX iY iZ j0 j1 j2 j5 j6 : Value}
def zdn (w:World)(v:Value)(es:List zdd):Prop:=Row w 5 v es.length (es.flatMap zdd.cells)∧∀ x∈es,zde w x
theorem zdn.below {w w':World}{v:Value}{es:List zdd}(h:zdn w v es)(hb:Below w.heap.size w w'):zdn w' v es:=⟨Row.below h.1 hb,fun x hx=>(h.2 x hx).below hb⟩
def EntAt (w:World)(a:Addr)(x:zdd):Prop:=w.cell? a=some x.l.v∧w.cell? ⟨a.block,a.off+1,none⟩=some (.bool x.l.1.rest)∧w.cell? ⟨a.block,a.off+2,none⟩=some x.r.v∧w.cell? ⟨a.block,a.off+3,none⟩=some (.bool x.r.1.rest)∧w.cell? ⟨a.block,a.off+4,none⟩=some x.hv
theorem zdn.at_ {w:World}{A:Option Addr}{c:Nat}{es:List zdd}(h:zdn w (.slice A es.length c) es){k:Nat}(hk:k<es.length):
  ∃ ad,A=some ad∧ad.block<w.heap.size∧EntAt w (ad.add (k * 5)) es[k]:=by
 obtain⟨ad,e,hb,hc⟩:=z49 (f:=zdd.cells) (n:=5) (fun _=>rfl) h.1 hk;exact⟨ad,e,hb,hc 0 _ rfl,hc 1 _ rfl,hc 2 _ rfl,hc 3 _ rfl,hc 4 _ rfl⟩
theorem zde.holes {w:World}{x:zdd}(h:zde w x):∃ H c,x.hv=.slice H x.hs.length c:=by
 obtain⟨H,c,e,-⟩:=h.h.1;exact⟨H,c,e⟩
structure EntOk (x:zdd):Prop where
 rule:zad x.l.1 x.r.1=0
 reg:zd8 x.l.1 x.hs=0
 nar:∀ q∈x.hs,∃ m,zd1 x.l.1 x.r.1 q.1 m
structure zdo (es:List zdd):Prop where
 len:es.length≤32
 ok:∀ x∈es,EntOk x
 apart:∀(i j:Nat) (hi:i<es.length) (hj:j<i),zan es[i].l.1 (es[j]'(Nat.lt_trans hj hi)).l.1=none∧zan es[i].r.1 (es[j]'(Nat.lt_trans hj hi)).r.1=none
def zdp (wr:World)(g:Nat)(es:List zdd)(i:Nat):Prop:=∃ cs:List Value,Blk wr g 78 cs∧cs.length=es.length * 3∧∀(j:Nat) (hj:j<es.length),j<i→∃ A m c,cs[j * 3]? = some es[j].r.v∧cs[j * 3+1]? = some (.bool es[j].r.1.rest)∧cs[j * 3+2]? = some (.slice A m c)
theorem zdp.under {w w':World}{g:Nat}{es:List zdd}{i:Nat}(h:zdp w g es i)(hb:Below w.heap.size w w'):zdp w' g es i:=by
 obtain⟨cs,h1,h2,h3⟩:=h;exact⟨cs,h1.below hb h1.lt,h2,h3⟩
theorem zdp.put {w:World}{g:Nat}{es:List zdd}{i:Nat}(h:zdp w g es i)(hi:i<es.length)(A:Option Addr)(m c:Nat):
  zdp (((w.setCell ⟨g,i * 3,none⟩ es[i].r.v).setCell ⟨g,i * 3+1,none⟩ (.bool es[i].r.1.rest)).setCell ⟨g,i * 3+2,none⟩ (.slice A m c)) g es (i+1):=by
 obtain⟨cs,h1,h2,h3⟩:=h;refine⟨_,((h1.set_ (i * 3) _).set_ (i * 3+1) _).set_ (i * 3+2) _,by simp [h2],fun j hj hji=>?_⟩
 by_cases e:j=i
 ·subst e;refine⟨A,m,c,?_,?_,?_⟩
  ·rw[List.getElem?_set_ne (by omega),List.getElem?_set_ne (by omega),List.getElem?_set_self (by omega)]
  ·rw[List.getElem?_set_ne (by omega),List.getElem?_set_self (by simp;omega)]
  ·rw[List.getElem?_set_self (by simp;omega)]
 ·obtain⟨A',m',c',e1,e2,e3⟩:=h3 j hj (by omega)
  refine⟨A',m',c',?_,?_,?_⟩
  ·rw[List.getElem?_set_ne (by omega),List.getElem?_set_ne (by omega),List.getElem?_set_ne (by omega)];exact e1
  ·rw[List.getElem?_set_ne (by omega),List.getElem?_set_ne (by omega),List.getElem?_set_ne (by omega)];exact e2
  ·rw[List.getElem?_set_ne (by omega),List.getElem?_set_ne (by omega),List.getElem?_set_ne (by omega)];exact e3
theorem zdp.facts {w:World}{g:Nat}{es:List zdd}{i:Nat}(h:zdp w g es i){j:Nat}(hj:j<es.length):
  ((∃ u,w.cell? ⟨g,j * 3,none⟩=some u)∧(∃ u,w.cell? ⟨g,j * 3+1,none⟩=some u)∧∃ u,w.cell? ⟨g,j * 3+2,none⟩=some u)∧w.frozen? ⟨g,j * 3,none⟩=false∧w.frozen? ⟨g,j * 3+1,none⟩=false∧w.frozen? ⟨g,j * 3+2,none⟩=false:=by
 obtain⟨cs,h1,h2,h3⟩:=h;refine⟨⟨?_,?_,?_⟩,h1.frozen _,h1.frozen _,h1.frozen _⟩
 ·exact⟨cs[j * 3]'(by omega),by rw[h1.cell,List.getElem?_eq_getElem]⟩
 ·exact⟨cs[j * 3+1]'(by omega),by rw[h1.cell,List.getElem?_eq_getElem]⟩
 ·exact⟨cs[j * 3+2]'(by omega),by rw[h1.cell,List.getElem?_eq_getElem]⟩
theorem zdp.at_ {w:World}{g:Nat}{es:List zdd}{i:Nat}(h:zdp w g es i){j:Nat}(hj:j<es.length)(hi:j<i):
  ∃ A m c,w.cell? ⟨g,j * 3,none⟩=some es[j].r.v∧w.cell? ⟨g,j * 3+1,none⟩=some (.bool es[j].r.1.rest)∧w.cell? ⟨g,j * 3+2,none⟩=some (.slice A m c):=by
 obtain⟨cs,h1,h2,h3⟩:=h;obtain⟨A,m,c,e1,e2,e3⟩:=h3 j hj hi;exact⟨A,m,c,by rw[h1.cell,e1],by rw[h1.cell,e2],by rw[h1.cell,e3]⟩
theorem run_mkR (n:Nat)(hn:n≤1000)(w:World):(Instr.makeSlice 133 (.int .i64 n) (.int .i64 n)).run prog w=.ok (.slice (some ⟨w.heap.size,0,none⟩) n n) (w.alloc (.cells (mkL [.slice none 0 0,.bool false,.slice none 0 0] n).toArray 78)):=
 run_mk (z:=.agg #[.slice none 0 0,.bool false,.slice none 0 0]) (bytes:=56) (size:=3) underlying133 (by kernel_rfl) (by decide) (zs:=[.slice none 0 0,.bool false,.slice none 0 0]) rfl rfl n .i64 .i64 (by omega) (by omega) w
theorem zdq {P:Program}{t e:TypeId}{size n c k:Nat}{A:Option Addr}(ht:P.underlying t=some (.slice e))(hs:∀ w,(sizeOf e).run P w=.ok size w)(hk:k≤c)(X:World):
  (Instr.sliceAt t (.slice A n c) none (some (.int .i64 k)) none).run P X=.ok (.slice A k c) X:=by
 have he:P.elem t=e:=by simp [Program.elem,ht]
 have ht':P.underlying t=some (.slice (P.elem t)):=by rw[he];exact ht
 rw[run_sliceAt_slice X t _ _ _ _ ht',run_slice_h X t A n c ht' _ _ (by omega) (by omega),he,hs]
 have h0:A.map (fun a=>a.add (0 * size))=A:=by
  cases A with
  | none=>rfl
  | some a=>simp [Addr.add]
 simp only[Result.andThen,sliced]
 rw[h0];simp
theorem zdr (w:World):(sizeOf 71).run prog w=.ok 5 w:=by kernel_rfl
structure R24 (W9:World)(g g12 g14 n k j:Nat)(pl pr ql qr:Pat)(Al Ar Bl Br H Hy A1 A2:Option Addr)(cl cr dl dr nh hc ny hcy m1 c1 m2 c2:Nat):Prop where
 b12:Blk W9 g12 71 [.slice Al pl.parts.length cl,.bool pl.rest,.slice Ar pr.parts.length cr,.bool pr.rest,.slice H nh hc]
 b14:Blk W9 g14 71 [.slice Bl ql.parts.length dl,.bool ql.rest,.slice Br qr.parts.length dr,.bool qr.rest,.slice Hy ny hcy]
 xl:zae W9 (.slice Al pl.parts.length cl) pl
 xr:zae W9 (.slice Ar pr.parts.length cr) pr
 yl:zae W9 (.slice Bl ql.parts.length dl) ql
 yr:zae W9 (.slice Br qr.parts.length dr) qr
 r0:W9.cell? ⟨g,k * 3,none⟩=some (.slice Ar pr.parts.length cr)
 r1:W9.cell? ⟨g,k * 3+1,none⟩=some (.bool pr.rest)
 r2:W9.cell? ⟨g,k * 3+2,none⟩=some (.slice A1 m1 c1)
 t0:W9.cell? ⟨g,j * 3,none⟩=some (.slice Br qr.parts.length dr)
 t1:W9.cell? ⟨g,j * 3+1,none⟩=some (.bool qr.rest)
 t2:W9.cell? ⟨g,j * 3+2,none⟩=some (.slice A2 m2 c2)
 ml:zan pl ql=none
 mr:zan pr qr=none
 hk:(k:Int)<(n:Int)
 hj:(j:Int)<(n:Int)
theorem mcR24 (ops:Array Oper)(hops:Tryz.f33.body.bind (zcn 24)=some ops)(Q:Exit→Act→World→Prop)(W9:World)(g g12 g14 n k j:Nat)(pl pr ql qr:Pat)(Al Ar Bl Br H Hy A1 A2:Option Addr)(cl cr dl dr nh hc ny hcy m1 c1 m2 c2:Nat)
  (h:R24 W9 g g12 g14 n k j pl pr ql qr Al Ar Bl Br H Hy A1 A2 cl cr dl dr nh hc ny hcy m1 c1 m2 c2)
  (hQ:∀(fI fJ fK fL fM fN fO fP fQ fR fS fT fU fV fW:Value) (w':World),Below W9.heap.size W9 w'→Q .normal ⟨#[u0,u1,u2,u3,u4,u5,.slice (some ⟨g,0,none⟩) n n,u7,u8,u9,gz,.int .i64 k,.pointer (some ⟨g12,0,none⟩),.int .i64 j,.pointer (some ⟨g14,0,none⟩),gF,gG,gH,gI,gJ,gK,gL,gM,gN,gO,gP,gQ,gR,gT,gV,gW,gX,gY,gZ,i6,i7,i8,ia,ib,ic,ie,ig,ii,ij,ik,il,im,io,ip,iq,ir,iu,iv,iw,ix,iy,iz,iA,iB,iC,iD,iE,iF,iG,iH,iI,iJ,iK,iL,fI,fJ,fK,fL,fM,fN,fO,fP,fQ,fR,fS,fT,fU,fV,fW,.bool false,j2,j5,j6],[]⟩ w'):
  (Code.region 24 ops true).wp prog Q ⟨#[u0,u1,u2,u3,u4,u5,.slice (some ⟨g,0,none⟩) n n,u7,u8,u9,gz,.int .i64 k,.pointer (some ⟨g12,0,none⟩),.int .i64 j,.pointer (some ⟨g14,0,none⟩),gF,gG,gH,gI,gJ,gK,gL,gM,gN,gO,gP,gQ,gR,gT,gV,gW,gX,gY,gZ,i6,i7,i8,ia,ib,ic,ie,ig,ii,ij,ik,il,im,io,ip,iq,ir,iu,iv,iw,ix,iy,iz,iA,iB,iC,iD,iE,iF,iG,iH,iI,iJ,iK,iL,iM,iN,iO,iP,iQ,iR,iS,iT,iU,iV,iW,iX,iY,iZ,j0,j1,j2,j5,j6],[]⟩ W9:=by
 simp only[Tryz.f33,Option.bind_some,zcn] at hops
 simp at hops
 subst hops;have hzi:=h.hk;have hzj:=h.hj;have cX:∀ d os,Calls prog 69 #[.agg #[.slice Al pl.parts.length cl,.bool pl.rest,.slice Ar pr.parts.length cr,.bool pr.rest,.slice H nh hc]] (grow (redrawn W9 d) os) fun e w''=>e=.returned (.agg #[.slice Al pl.parts.length cl,.bool pl.rest,.slice H nh hc])∧∃ p:Regrown,w''=grow (redrawn W9 p.d) p.os:=fun d os=>Calls.regrown_of (by have hh:=zdg Al H pl.parts.length cl nh hc pl.rest pr.rest (.slice Ar pr.parts.length cr) (grow (redrawn W9 d) os);exact hh)
 have cY:∀ d os,Calls prog 69 #[.agg #[.slice Bl ql.parts.length dl,.bool ql.rest,.slice Br qr.parts.length dr,.bool qr.rest,.slice Hy ny hcy]] (grow (redrawn W9 d) os) fun e w''=>e=.returned (.agg #[.slice Bl ql.parts.length dl,.bool ql.rest,.slice Hy ny hcy])∧∃ p:Regrown,w''=grow (redrawn W9 p.d) p.os:=fun d os=>Calls.regrown_of (by have hh:=zdg Bl Hy ql.parts.length dl ny hcy ql.rest qr.rest (.slice Br qr.parts.length dr) (grow (redrawn W9 d) os);exact hh)
 have cL:∀ d os,Calls prog 68 #[.agg #[.slice Al pl.parts.length cl,.bool pl.rest,.slice H nh hc],.agg #[.slice Bl ql.parts.length dl,.bool ql.rest,.slice Hy ny hcy]] (grow (redrawn W9 d) os) fun e w''=>e=.returned (.bool false)∧∃ p:Regrown,w''=grow (redrawn W9 p.d) p.os:=fun d os=>Calls.regrown_of (by have hh:=zdm pl ql Al Bl cl dl (.slice H nh hc) (.slice Hy ny hcy) (grow (redrawn W9 d) os) (h.xl.below (below_regrown W9 d os)) (h.yl.below (below_regrown W9 d os)) h.ml;exact hh)
 have cR:∀ d os,Calls prog 68 #[.agg #[.slice Ar pr.parts.length cr,.bool pr.rest,.slice A1 m1 c1],.agg #[.slice Br qr.parts.length dr,.bool qr.rest,.slice A2 m2 c2]] (grow (redrawn W9 d) os) fun e w''=>e=.returned (.bool false)∧∃ p:Regrown,w''=grow (redrawn W9 p.d) p.os:=fun d os=>Calls.regrown_of (by have hh:=zdm pr qr Ar Br cr dr (.slice A1 m1 c1) (.slice A2 m2 c2) (grow (redrawn W9 d) os) (h.xr.below (below_regrown W9 d os)) (h.yr.below (below_regrown W9 d os)) h.mr;exact hh)
 have x0:=cell_regrown (show W9.cell? ⟨g12,0,none⟩=some (.slice Al pl.parts.length cl) from h.b12.cell 0);have x1:=cell_regrown (show W9.cell? ⟨g12,1,none⟩=some (.bool pl.rest) from h.b12.cell 1);have x2:=cell_regrown (show W9.cell? ⟨g12,2,none⟩=some (.slice Ar pr.parts.length cr) from h.b12.cell 2);have x3:=cell_regrown (show W9.cell? ⟨g12,3,none⟩=some (.bool pr.rest) from h.b12.cell 3);have x4:=cell_regrown (show W9.cell? ⟨g12,4,none⟩=some (.slice H nh hc) from h.b12.cell 4);have y0:=cell_regrown (show W9.cell? ⟨g14,0,none⟩=some (.slice Bl ql.parts.length dl) from h.b14.cell 0);have y1:=cell_regrown (show W9.cell? ⟨g14,1,none⟩=some (.bool ql.rest) from h.b14.cell 1);have y2:=cell_regrown (show W9.cell? ⟨g14,2,none⟩=some (.slice Br qr.parts.length dr) from h.b14.cell 2);have y3:=cell_regrown (show W9.cell? ⟨g14,3,none⟩=some (.bool qr.rest) from h.b14.cell 3);have y4:=cell_regrown (show W9.cell? ⟨g14,4,none⟩=some (.slice Hy ny hcy) from h.b14.cell 4);have u0':=cell_regrown h.r0;have u1':=cell_regrown h.r1;have u2':=cell_regrown h.r2;have v0':=cell_regrown h.t0;have v1':=cell_regrown h.t1;have v2':=cell_regrown h.t2;have HQ:=hd_ hQ;clear h hQ;refine wp_region_quiet_below (by kernel_rfl) (by kernel_rfl) ?_
 iterate 2 (first | go_big_quiet_step (exact cX _ _) | quiet_step (exact cX _ _))
 iterate 2 (first | go_big_quiet_step (exact cY _ _) | quiet_step (exact cY _ _))
 iterate 2 (first | go_big_quiet_step (exact cL _ _) | quiet_step (exact cL _ _))
 repeat (first | go_big_quiet_step (exact cR _ _) | quiet_step (exact cR _ _))
 refine wpQuiet_nil ?_;intro _ hw9;obtain⟨⟨dq,osq⟩,hw9⟩:=hw9;subst hw9;exact HQ.out _ _ _ _ _ _ _ _ _ _ _ _ _ _ _ _ (below_regrown W9 dq osq)
theorem zds (es:List zdd)(v:Value)(w:World)(hE:zdn w v es)(hM:zdo es):
  Calls prog 33 #[v] w fun e w'=>e=.returned (.tuple #[.int .i64 0,.int .i64 0])∧Below w.heap.size w w':=by
 obtain⟨A,c,rfl,-⟩:=id hE.1;have hl32:=hM.len;have HE:=hd_ hE;have HM:=hd_ hM;clear hE hM;go_enter func33,ntmps33;go_wp2_with fail;go_loopw [17] (fun i wr=>∃ k:Nat,i=.int .i64 k∧k≤es.length∧Hid (Below w.heap.size w wr)) (fun i _=>es.length - (intOf i).toNat)
 case atStart=>exact⟨0,rfl,Nat.zero_le _,hd_ (Below.refl _ _)⟩
 case round =>
  obtain⟨k,rfl,hk,HI⟩:=hrel;by_cases hlt:k<es.length
  ·have HEX:=hd_ (HE.out.below HI.out);obtain⟨ad,rfl,hab,s0,s1,s2,s3,s4⟩:=HEX.out.at_ hlt;have HXI:=hd_ (HEX.out.2 es[k] (List.getElem_mem hlt));have HXO:=hd_ (HM.out.ok es[k] (List.getElem_mem hlt));generalize es[k]=x at s0 s1 s2 s3 s4 HXI HXO;obtain⟨H,hc,hhv⟩:=HXI.out.holes;obtain⟨⟨pl,Al,cl⟩,⟨pr,Ar,cr⟩,hv,hs⟩:=x;change hv=.slice H hs.length hc at hhv;subst hhv;change wr.cell? _=some (.slice Al pl.parts.length cl) at s0;change wr.cell? _=some (.bool pl.rest) at s1;change wr.cell? _=some (.slice Ar pr.parts.length cr) at s2;change wr.cell? _=some (.bool pr.rest) at s3;change wr.cell? _=some (.slice H hs.length hc) at s4;have hX:Below wr.heap.size wr (wr.alloc (.cells #[.slice Al pl.parts.length cl,.bool pl.rest,.slice Ar pr.parts.length cr,.bool pr.rest,.slice H hs.length hc] 71)):=(Below.refl _ _).alloc (Nat.le_refl _) _;have hXI:=HXI.out.below hX;have HC:=hd_ (zdh pl pr hs Al Ar H cl cr hc (wr.alloc (.cells #[.slice Al pl.parts.length cl,.bool pl.rest,.slice Ar pr.parts.length cr,.bool pr.rest,.slice H hs.length hc] 71)) hXI.l hXI.r hXI.h (by have:=hXI.n;exact Nat.le_trans this (by decide)) HXO.out.rule HXO.out.reg)
   have HX:=hd_ (z0r HI.out hX);have HLT:=hd_ hlt;clear hab hX hXI;go_wp2_with fail;refine HC.out.mono ?_;rintro e w4 ⟨rfl,hb⟩;have HB4:=hd_ (z0r HX.out hb);clear hb s0 s1 s2 s3 s4;go_wp2_with fail;go_roundw
   case rel=>exact⟨k+1,by go_num,by omega,HB4⟩
   case measure=>simp [intOf];omega
  ·have hke:k=es.length:=by omega
   subst hke;have q32:decide ((32:Int)<(es.length:Int))=false:=by simp;omega
   have q32':decide (32<es.length)=false:=by simp;omega
   have hmk:=run_mkR es.length (by omega)
   have hge:¬((es.length:Int)<(es.length:Int)):=by omega
   go_upto_region 10 with fail;have HR0:Hid (zdp (wr.alloc (.cells (mkL [.slice none 0 0,.bool false,.slice none 0 0] es.length).toArray 78)) wr.heap.size es 0):=hd_ ⟨_,z0l wr _ _,by rw[z0m];rfl,fun j _ h=>by omega⟩
   have HB1:=hd_ (HI.out.alloc HI.out.size (.cells (mkL [.slice none 0 0,.bool false,.slice none 0 0] es.length).toArray 78));have hgw:w.heap.size≤wr.heap.size:=HI.out.size;generalize wr.alloc (.cells (mkL [.slice none 0 0,.bool false,.slice none 0 0] es.length).toArray 78)=W2 at HR0 HB1 ⊢;generalize wr.heap.size=g at HR0 hgw ⊢;clear hmk HI hk hlt;have HGW:=hd_ hgw;clear hgw;go_wp2_with fail;go_loopw [35] (fun i wr=>∃ k:Nat,i=.int .i64 k∧k≤es.length∧Hid (Below w.heap.size w wr∧zdp wr g es k)) (fun i _=>es.length - (intOf i).toNat)
   case atStart=>exact⟨0,rfl,Nat.zero_le _,hd_ ⟨HB1.out,HR0.out⟩⟩
   case round =>
    obtain⟨k,rfl,hk,HI⟩:=hrel;by_cases hlt:k<es.length
    ·have HEX:=hd_ (HE.out.below HI.out.1);obtain⟨ad,rfl,hab,s0,s1,s2,s3,s4⟩:=HEX.out.at_ hlt;have HXI:=hd_ (HEX.out.2 es[k] (List.getElem_mem hlt));have HXO:=hd_ (HM.out.ok es[k] (List.getElem_mem hlt));have HPUT:=hd_ (fun X (hX:zdp X g es k) A m c=>hX.put hlt A m c);have HFA:=hd_ (fun X (hX:zdp X g es k)=>hX.facts hlt);generalize es[k]=x at s0 s1 s2 s3 s4 HXI HXO HPUT;obtain⟨H,hc,hhv⟩:=HXI.out.holes;obtain⟨⟨pl,Al,cl⟩,⟨pr,Ar,cr⟩,hv,hs⟩:=x;change hv=.slice H hs.length hc at hhv;subst hhv;change wr.cell? _=some (.slice Al pl.parts.length cl) at s0;change wr.cell? _=some (.bool pl.rest) at s1;change wr.cell? _=some (.slice Ar pr.parts.length cr) at s2;change wr.cell? _=some (.bool pr.rest) at s3;change wr.cell? _=some (.slice H hs.length hc) at s4;have hX:Below wr.heap.size wr (wr.alloc (.cells #[.slice Al pl.parts.length cl,.bool pl.rest,.slice Ar pr.parts.length cr,.bool pr.rest,.slice H hs.length hc] 71)):=(Below.refl _ _).alloc (Nat.le_refl _) _;have hXI:=HXI.out.below hX;have HC:=hd_ (zdl pl pr hs Al Ar H cl cr hc (wr.alloc (.cells #[.slice Al pl.parts.length cl,.bool pl.rest,.slice Ar pr.parts.length cr,.bool pr.rest,.slice H hs.length hc] 71)) hXI.l hXI.r hXI.h hXI.n HXO.out.nar);have HX:=hd_ hX;have HLT:=hd_ hlt;clear hab hX hXI;go_wp2_with fail;refine HC.out.mono ?_;rintro e w4 ⟨hb,A9,n9,c9,rfl⟩;have hb4:=z0r HX.out hb;have hb5:Below wr.heap.size wr (w4.alloc (.cells #[.slice Ar pr.parts.length cr,.bool pr.rest,.slice A9 n9 c9] 78)):=hb4.alloc hb4.size _;have HRG:=hd_ (HI.out.2.under hb5);have HBW:=hd_ (z0r HI.out.1 hb5);have HN:Hid (Blk (w4.alloc (.cells #[.slice Ar pr.parts.length cr,.bool pr.rest,.slice A9 n9 c9] 78)) w4.heap.size 78 [.slice Ar pr.parts.length cr,.bool pr.rest,.slice A9 n9 c9]):=hd_ (z0l w4 _ _);clear hb hb4 hb5 s0 s1 s2 s3 s4;go_upto_region 14 with fail;generalize w4.alloc (.cells #[.slice Ar pr.parts.length cr,.bool pr.rest,.slice A9 n9 c9] 78)=W5 at HRG HBW HN ⊢;generalize w4.heap.size=g9 at HN ⊢;obtain⟨z0,z1,z2⟩:=(⟨HN.out.cell 0,HN.out.cell 1,HN.out.cell 2⟩:W5.cell? ⟨g9,0,none⟩=some (.slice Ar pr.parts.length cr)∧W5.cell? ⟨g9,1,none⟩=some (.bool pr.rest)∧W5.cell? ⟨g9,2,none⟩=some (.slice A9 n9 c9))
     obtain⟨⟨⟨u0,d0⟩,⟨u1,d1⟩,⟨u2,d2⟩⟩,f0,f1,f2⟩:=HFA.out W5 HRG.out;have hzl:(k:Int)<(es.length:Int):=by omega
     go_wp2_with fail;go_roundw
     case rel=>exact⟨k+1,by go_num,by omega,hd_ ⟨((HBW.out.setCell (p:=⟨g,k * 3,none⟩) HGW.out _).setCell (p:=⟨g,k * 3+1,none⟩) HGW.out _).setCell (p:=⟨g,k * 3+2,none⟩) HGW.out _,HPUT.out W5 HRG.out A9 n9 c9⟩⟩
     case measure=>simp [intOf];omega
    ·have hke:k=es.length:=by omega
     subst hke;have HB3:=hd_ HI.out.1;have HR3:=hd_ HI.out.2;have hge:¬((es.length:Int)<(es.length:Int)):=by omega
     clear HI;have hcc:es.length≤c:=by obtain⟨A',c',e,h1,-⟩:=id HE.out.1;injection e with e1 e2 e3;omega
     go_wp2_with fail;go_loopw [55] (fun i wr=>∃ k:Nat,i=.int .i64 k∧k≤es.length∧Hid (Below w.heap.size w wr∧zdp wr g es es.length)) (fun i _=>es.length - (intOf i).toNat)
     case atStart=>exact⟨0,rfl,Nat.zero_le _,hd_ ⟨HB3.out,HR3.out⟩⟩
     case round =>
      obtain⟨k,rfl,hk,HI⟩:=hrel;by_cases hlt:k<es.length
      ·have HEX:=hd_ (HE.out.below HI.out.1);obtain⟨ad,rfl,hab,s0,s1,s2,s3,s4⟩:=HEX.out.at_ hlt;have HXI:=hd_ (HEX.out.2 es[k] (List.getElem_mem hlt));have HRX:=hd_ (fun X (hX:zdp X g es es.length)=>hX.at_ hlt hlt);have HAP:=hd_ (fun j (hj:j<k)=>HM.out.apart k j hlt hj);generalize es[k]=x at s0 s1 s2 s3 s4 HXI HRX HAP;obtain⟨H,hc,hhv⟩:=HXI.out.holes;obtain⟨⟨pl,Al,cl⟩,⟨pr,Ar,cr⟩,hv,hs⟩:=x;change hv=.slice H hs.length hc at hhv;subst hhv;change wr.cell? _=some (.slice Al pl.parts.length cl) at s0;change wr.cell? _=some (.bool pl.rest) at s1;change wr.cell? _=some (.slice Ar pr.parts.length cr) at s2;change wr.cell? _=some (.bool pr.rest) at s3;change wr.cell? _=some (.slice H hs.length hc) at s4;have hX:Below wr.heap.size wr (wr.alloc (.cells #[.slice Al pl.parts.length cl,.bool pl.rest,.slice Ar pr.parts.length cr,.bool pr.rest,.slice H hs.length hc] 71)):=(Below.refl _ _).alloc (Nat.le_refl _) _;have HBX:=hd_ (z0r HI.out.1 hX);have HGX:=hd_ (HI.out.2.under hX);have HN:Hid (Blk (wr.alloc (.cells #[.slice Al pl.parts.length cl,.bool pl.rest,.slice Ar pr.parts.length cr,.bool pr.rest,.slice H hs.length hc] 71)) wr.heap.size 71 [.slice Al pl.parts.length cl,.bool pl.rest,.slice Ar pr.parts.length cr,.bool pr.rest,.slice H hs.length hc]):=hd_ (z0l wr _ _);have HXP:=hd_ (HXI.out.below hX);have hpre:=fun X=>zdq (P:=prog) (t:=23) (n:=es.length) (c:=c) (k:=k) (A:=some ad) underlying23 zdr (by omega) X
       have HLT:=hd_ hlt;clear hab hX;go_upto_region 21 with fail;generalize wr.alloc (.cells #[.slice Al pl.parts.length cl,.bool pl.rest,.slice Ar pr.parts.length cr,.bool pr.rest,.slice H hs.length hc] 71)=W7 at HBX HGX HN HXP ⊢;generalize wr.heap.size=g12 at HN ⊢;clear s0 s1 s2 s3 s4 HI HEX;go_wp2_with fail;go_loopw [64] (fun i wr=>∃ j:Nat,i=.int .i64 j∧j≤k∧Hid (Below W7.heap.size W7 wr)) (fun i _=>k - (intOf i).toNat)
       case atStart=>exact⟨0,rfl,Nat.zero_le _,hd_ (Below.refl _ _)⟩
       case round =>
        obtain⟨j,rfl,hj,HJ⟩:=hrel;by_cases hlj:j<k
        ·have hje:j<es.length:=by omega
         have HEX:=hd_ (HE.out.below (z0r HBX.out HJ.out));obtain⟨ad2,had,hab,s0,s1,s2,s3,s4⟩:=HEX.out.at_ hje;injection had with had
         subst had;have HYI:=hd_ (HEX.out.2 es[j] (List.getElem_mem hje));have HRY:=hd_ (fun X (hX:zdp X g es es.length)=>hX.at_ hje hje);have HAJ:=hd_ (HAP.out j hlj);generalize es[j]=y at s0 s1 s2 s3 s4 HYI HRY HAJ;obtain⟨Hy,hcy,hhv⟩:=HYI.out.holes;obtain⟨⟨ql,Bl,dl⟩,⟨qr,Br,dr⟩,hv,hsy⟩:=y;change hv=.slice Hy hsy.length hcy at hhv;subst hhv;change wr.cell? _=some (.slice Bl ql.parts.length dl) at s0;change wr.cell? _=some (.bool ql.rest) at s1;change wr.cell? _=some (.slice Br qr.parts.length dr) at s2;change wr.cell? _=some (.bool qr.rest) at s3;change wr.cell? _=some (.slice Hy hsy.length hcy) at s4;have hX:Below wr.heap.size wr (wr.alloc (.cells #[.slice Bl ql.parts.length dl,.bool ql.rest,.slice Br qr.parts.length dr,.bool qr.rest,.slice Hy hsy.length hcy] 71)):=(Below.refl _ _).alloc (Nat.le_refl _) _;have hB9:=z0r HJ.out hX;have HB9:=hd_ hB9;have HYP:=hd_ (HYI.out.below hX);have hN14:Blk (wr.alloc (.cells #[.slice Bl ql.parts.length dl,.bool ql.rest,.slice Br qr.parts.length dr,.bool qr.rest,.slice Hy hsy.length hcy] 71)) wr.heap.size 71 [.slice Bl ql.parts.length dl,.bool ql.rest,.slice Br qr.parts.length dr,.bool qr.rest,.slice Hy hsy.length hcy]:=z0l wr _ _;have hN12:=HN.out.below hB9 HN.out.lt;have hRG:=HGX.out.under hB9;have hXP:=HXP.out.below hB9;have HLJ:=hd_ hlj;have hzi:(k:Int)<(es.length:Int):=by omega
         have hzj:(j:Int)<(es.length:Int):=by omega
         clear hab hX;go_upto_region 24 with fail;clear s0 s1 s2 s3 s4;generalize wr.alloc (.cells #[.slice Bl ql.parts.length dl,.bool ql.rest,.slice Br qr.parts.length dr,.bool qr.rest,.slice Hy hsy.length hcy] 71)=W9 at hB9 HB9 HYP hN14 hN12 hRG hXP ⊢;generalize wr.heap.size=g14 at hN14 ⊢;obtain⟨A1,m1,c1,r0,r1,r2⟩:=HRX.out W9 hRG;obtain⟨A2,m2,c2,t0,t1,t2⟩:=HRY.out W9 hRG;refine mcR24 _ (by kernel_rfl) _ W9 g g12 g14 es.length k j pl pr ql qr Al Ar Bl Br H Hy A1 A2 cl cr dl dr hs.length hc hsy.length hcy m1 c1 m2 c2 ⟨hN12,hN14,hXP.l,hXP.r,HYP.out.l,HYP.out.r,r0,r1,r2,t0,t1,t2,HAJ.out.1,HAJ.out.2,hzi,hzj⟩ ?_
         intro fI fJ fK fL fM fN fO fP fQ fR fS fT fU fV fW w' hb';have HBN:=hd_ (HB9.out.trans (hb'.mono HB9.out.size));clear hb' hB9 hN14 hN12 hRG hXP r0 r1 r2 t0 t1 t2 hzi hzj;go_wp2_with fail;go_roundw
         case rel=>exact⟨j+1,by go_num,by omega,HBN⟩
         case measure=>simp [intOf];omega
        ·have hke:j=k:=by omega
         subst hke;have HBE:=hd_ (z0r HBX.out HJ.out);have HGE:=hd_ (HGX.out.under HJ.out);have hge:¬((j:Int)<(j:Int)):=by omega
         clear hpre;go_wp2_with fail;go_roundw
         case rel=>exact⟨j+1,by go_num,by omega,hd_ ⟨HBE.out,HGE.out⟩⟩
         case measure=>simp [intOf];omega
      ·have hke:k=es.length:=by omega
       subst hke;have HBE:=hd_ HI.out.1;have hge:¬((es.length:Int)<(es.length:Int)):=by omega
       go_wp2_with fail;go_ret2;exact⟨rfl,HBE.out⟩
end
theorem zdt (q:Pat)(A:Option Addr)(c b:Nat)(p:ByteArray)(w:World)(he:Env w)(hq:zae w (.slice A q.parts.length c) q)(hp:w.cell? ⟨b,0,none⟩=some (.string p))(hz:p.size≤1000000):
  Calls prog 76 #[.agg #[.slice A q.parts.length c,.bool q.rest],.pointer (some ⟨b,0,none⟩)] w fun e w'=>e=.returned (.bool (z8j q p).isSome)∧Below w.heap.size w w':=by
 have hB:=z0l w [.slice A q.parts.length c,.bool q.rest] 68;have hA:Below w.heap.size w (w.alloc (.cells #[.slice A q.parts.length c,.bool q.rest] 68)):=(Below.refl _ _).alloc (Nat.le_refl _) _;have HM:=hd_ (fun X (hX:Below w.heap.size w X)=>zbp q p A c X (he.below hX) hz (hq.below hX).1 hq.small);have d2:(w.alloc (.cells #[.slice A q.parts.length c,.bool q.rest] 68)).cell? ⟨b,0,none⟩=some (.string p):=(hA.cell (block_lt_of_cell hp)).trans hp;clear he hq hp;go_enter func76,ntmps76;go_upto_region 1 with fail;generalize w.alloc (.cells #[.slice A q.parts.length c,.bool q.rest] 68)=W1 at hB hA d2 ⊢;have d0:W1.cell? ⟨w.heap.size,0,none⟩=some (.slice A q.parts.length c):=hB.cell 0;have d1:W1.cell? ⟨w.heap.size,1,none⟩=some (.bool q.rest):=hB.cell 1;have HC:=hd_ (HM.out W1 hA);have HA:=hd_ hA;clear hA hB HM;generalize z8j q p=o at HC ⊢;go_wp2_with fail;refine HC.out.mono ?_;rintro e w2 ⟨A',n,c',rfl,hb,-⟩;have HB:=hd_ (z0r HA.out hb);clear hb d0 d1 d2;go_wp2_with fail;go_ret;exact⟨rfl,HB.out⟩
def zdu (hs:List zd6)(p:ByteArray):Bool:=hs.any fun q=>(z8j q.1 p).isSome
theorem zdv (hs:List zd6)(H:Option Addr)(hc b:Nat)(p:ByteArray)(w:World)(he:Env w)(hh:zd7 w (.slice H hs.length hc) hs)(hp:w.cell? ⟨b,0,none⟩=some (.string p))(hz:p.size≤1000000)(hn:hs.length≤1000):
  Calls prog 131 #[.slice H hs.length hc,.func (.func 76) #[] #[.pointer (some ⟨b,0,none⟩)]] w fun e w'=>(∃ i:Int,e=.returned (.int .i64 i)∧decide (0≤i)=zdu hs p)∧Below w.heap.size w w':=by
 have HE:=hd_ he;have HH:=hd_ hh;have HP:=hd_ hp;have HNO:Hid (∀ k (hk:k<hs.length),(z8j hs[k].1 p).isSome=true→zdu hs p=true):=hd_ (fun k hk h=>List.any_eq_true.2 ⟨_,List.getElem_mem hk,h⟩);have HYE:Hid ((∀ k (hk:k<hs.length),(z8j hs[k].1 p).isSome=false)→zdu hs p=false):=hd_ (fun h=>by
  unfold zdu;rw[List.any_eq_false];intro q hq;obtain⟨k,hk,rfl⟩:=List.getElem_of_mem hq;rw[h k hk];decide)
 generalize zdu hs p=r at HNO HYE ⊢;clear he hh hp;go_enter func131,ntmps131;go_wp2_with fail;go_loopw [8] (fun i wr=>∃ k:Nat,i=.int .i64 k∧k≤hs.length∧Hid (Below w.heap.size w wr∧∀ j (hj:j<hs.length),j<k→(z8j hs[j].1 p).isSome=false)) (fun i _=>hs.length - (intOf i).toNat)
 case atStart=>exact⟨0,rfl,Nat.zero_le _,hd_ ⟨Below.refl _ _,fun j _ h=>by omega⟩⟩
 case round =>
  obtain⟨k,rfl,hk,HI⟩:=hrel;by_cases hlt:k<hs.length
  ·have HHX:=hd_ (HH.out.below HI.out.1);obtain⟨ad,rfl,hab,s0,s1⟩:=HHX.out.at_ hlt;have HPK:=hd_ (HHX.out.2 hs[k] (List.getElem_mem hlt));have HNK:=hd_ (HNO.out k hlt);have HJ:Hid ((z8j hs[k].1 p).isSome=false→∀ j (hj:j<hs.length),j<k+1→(z8j hs[j].1 p).isSome=false):=hd_ (fun h j hj hjk=>by
    by_cases e:j=k
    ·subst e;exact h
    ·exact HI.out.2 j hj (by omega))
   generalize hs[k]=q at s0 s1 HPK HNK HJ;obtain⟨q,Aq,cq⟩:=q;change wr.cell? _=some (.slice Aq q.parts.length cq) at s0;change wr.cell? _=some (.bool q.rest) at s1;have HC:=hd_ (zdt q Aq cq b p wr (HE.out.below HI.out.1) HPK.out ((HI.out.1.cell (block_lt_of_cell HP.out)).trans HP.out) hz);obtain⟨o,ho⟩:∃ o,(z8j q p).isSome=o:=⟨_,rfl⟩;rw[ho] at HC;have HO:=hd_ ho;have HLT:=hd_ hlt;clear hab ho;cases o with
   | true =>
    have HR:=hd_ (HNK.out HO.out);go_wp2_with fail;refine HC.out.mono ?_;rintro e w2 ⟨rfl,hb⟩;have HB:=hd_ (z0r HI.out.1 hb);clear hb s0 s1;go_wp2_with fail;go_ret;exact⟨⟨(k:Int),rfl,by rw[HR.out];exact decide_eq_true (by omega)⟩,HB.out⟩
   | false =>
    have HR:=hd_ (HJ.out HO.out);go_wp2_with fail;refine HC.out.mono ?_;rintro e w2 ⟨rfl,hb⟩;have HB:=hd_ (z0r HI.out.1 hb);clear hb s0 s1;go_wp2_with fail;go_roundw
    case rel=>exact⟨k+1,by go_num,by omega,hd_ ⟨HB.out,HR.out⟩⟩
    case measure=>simp [intOf];omega
  ·have hke:k=hs.length:=by omega
   subst hke;have HR:=hd_ (HYE.out (fun j hj=>HI.out.2 j hj hj));have HB:=hd_ HI.out.1;have hge:¬((hs.length:Int)<(hs.length:Int)):=by omega
   go_wp2_with fail;go_ret;exact⟨⟨-1,rfl,by rw[HR.out];decide⟩,HB.out⟩
theorem zdw (hs:List zd6)(H:Option Addr)(hc b:Nat)(p:ByteArray)(w:World)(he:Env w)(hh:zd7 w (.slice H hs.length hc) hs)(hp:w.cell? ⟨b,0,none⟩=some (.string p))(hz:p.size≤1000000)(hn:hs.length≤1000):
  Calls prog 75 #[.slice H hs.length hc,.func (.func 76) #[] #[.pointer (some ⟨b,0,none⟩)]] w fun e w'=>e=.returned (.bool (zdu hs p))∧Below w.heap.size w w':=by
 have HC:=hd_ (zdv hs H hc b p w he hh hp hz hn);clear he hh hp;generalize zdu hs p=r at HC ⊢;go_enter func75,ntmps75;go_wp2_with fail;refine HC.out.mono ?_;rintro e w2 ⟨⟨i,rfl,hi⟩,hb⟩;have HI:=hd_ hi;have HB:=hd_ hb;clear hi hb;go_wp2_with fail;go_ret;exact⟨by rw[← HI.out];rfl,HB.out⟩
theorem zj0 (r:List Syn)(k:Nat)(hk:k<r.length):(r.take (k+1)).flatMap z4t=(r.take k).flatMap z4t++z4t r[k]:=by
 rw[List.take_succ_eq_append_getElem hk,z56]
theorem zj1 (x:Syn):(z4s x).length≤1:=by unfold z4s;split <;> simp
theorem zj2 (x:Syn):(z4t x).length≤1:=by unfold z4t;split;simp;exact zj1 x
theorem zj3 (l:List Syn):(l.flatMap z4t).length≤l.length:=by
 induction l with
 | nil=>simp
 | cons x l ih=>rw[List.flatMap_cons,List.length_append,List.length_cons];have:=zj2 x;omega
theorem room40 {n:Nat}(h:n≤1000000):n * 40≤140737488355328:=Nat.le_trans (Nat.mul_le_mul_right 40 h) (by decide)
theorem zj4 (O:List Hav)(r:List Syn)(hl:O.length+r.length+1≤1000000)(k:Nat):((O++(r.take k).flatMap z4t).length+1) * 40≤140737488355328:=by
 have:=zj3 (r.take k);rw[List.length_take] at this;have h2:(O++(r.take k).flatMap z4t).length=O.length+((r.take k).flatMap z4t).length:=List.length_append;exact room40 (by omega)
theorem rsT17 (T:Code)(hT:Tryz.f48.body.bind (zi2 17)=some T)(R:Ending→World→Prop)(w0 w:World)(O:List Hav)(r:List Syn)(v:Value)(A1:Option Addr)(c1:Nat)
  (hA:Aft w0 w w0.heap.size O v) (hS:z4z w0 (.slice A1 r.length c1) r) (hl:O.length+r.length+1≤1000000)
  (hRR:∀ v' X,Aft w0 X w0.heap.size (O++r.flatMap z4t) v'→R (.returned v') X)
  (u0 u2 u3 u4 u7 u8 u9 gz gA gC gD gE gF gG gH gI gJ gK gL gM gN gO gP gQ gR gT gV gW gX gY gZ i6 i7 i8 ia ib ic ie ig ii ij ik il im io ip iq ir iu iv iw ix iy iz iA iB iC iD iE iF iG iH iI iJ iK iL iM iN iO iP iQ iR iS iT iU iV iW iX iY iZ j0 j1 j2 j5 j6 j7:Value):
  T.wp prog (bodyPost prog Tryz.f48 R) ⟨#[u0,.slice A1 r.length c1,u2,u3,u4,.pointer (some ⟨w0.heap.size,0,none⟩),.func (.func 91) #[] #[.pointer (some ⟨w0.heap.size,0,none⟩)],u7,u8,u9,gz,gA,gC,gD,gE,gF,gG,gH,gI,gJ,gK,gL,gM,gN,gO,gP,gQ,gR,gT,gV,gW,gX,gY,gZ,i6,i7,i8,ia,ib,ic,ie,ig,ii,ij,ik,il,im,io,ip,iq,ir,iu,iv,iw,ix,iy,iz,iA,iB,iC,iD,iE,iF,iG,iH,iI,iJ,iK,iL,iM,iN,iO,iP,iQ,iR,iS,iT,iU,iV,iW,iX,iY,iZ,j0,j1,j2,j5,j6,j7],[]⟩ w:=by
 simp only[Tryz.f48,Option.bind_some,zi2,zi1] at hT
 simp at hT
 subst hT;obtain⟨A2,c2,e2,hc,hm,-⟩:=id hS;have hm':r.length≤140737488355328:=by omega
 clear hc hm e2 A2 c2;have HRR:=hd_ hRR;have HS:=hd_ hS;have HA:=hd_ hA;have HL:=hd_ (zj4 O r hl);clear hRR hS hA hl;go_wp2_with fail;go_loopw [77] (fun i wr=>∃(k:Nat) (v':Value),k≤r.length∧i=.int .i64 k∧Hid (Aft w0 wr w0.heap.size (O++(r.take k).flatMap z4t) v')) (fun i _=>r.length - (intOf i).toNat)
 case atStart=>exact⟨0,v,Nat.zero_le _,rfl,hd_ (by rw[List.take_zero,List.flatMap_nil,List.append_nil];exact HA.out)⟩
 case round =>
  obtain⟨k,v',hk,rfl,HI⟩:=hrel;clear HA;by_cases hlt:k<r.length
  ·obtain⟨ad,rfl,hab,y0,y1,y2,y3,y4⟩:=z4z.at_ (HS.out.below HI.out.bel) hlt;have HST:=hd_ (zj0 r k hlt);have HLK:=hd_ (HL.out k);generalize r[k]=x at y0 y1 y2 y3 y4 HST;have HX:=hd_ (HI.out.alloc (.cells #[.int .i64 x.kind,.string x.path,.int .i64 x.num,.string x.frm,.string x.dst] 50));obtain⟨z0,z1,z2,z3,z4⟩:=z3r (x:=x) (z0l wr [.int .i64 x.kind,.string x.path,.int .i64 x.num,.string x.frm,.string x.dst] 50);have HSY:=hd_ (z3u x (wr.alloc (.cells #[.int .i64 x.kind,.string x.path,.int .i64 x.num,.string x.frm,.string x.dst] 50)));cases hst:z3o x.kind with
   | true =>
    have HP:Hid (z4t x=[]):=hd_ (by unfold z4t;rw[hst];rfl)
    rw[hst] at HSY;clear hst;go_wp2_with fail;refine HSY.out.mono ?_;rintro e w' ⟨rfl,hb⟩;have HX2:=hd_ (HX.out.under hb);clear hb;go_wp2_with fail;go_roundw
    case rel=>exact⟨k+1,v',by omega,by go_num,by rw[HST.out,HP.out,List.append_nil];exact HX2⟩
    case measure=>simp [intOf];omega
   | false =>
    have HP:Hid (z4t x=z4s x):=hd_ (by unfold z4t;rw[hst];rfl)
    rw[hst] at HSY;clear hst;go_wp2_with fail;refine HSY.out.mono ?_;rintro e w' ⟨rfl,hb⟩;have HX2:=hd_ (HX.out.under hb);have HB2:=hd_ ((z0l wr [.int .i64 x.kind,.string x.path,.int .i64 x.num,.string x.frm,.string x.dst] 50).below hb (by simp))
    clear hb;obtain⟨q0,q1,q2,q3,q4⟩:=z3r (x:=x) HB2.out;have HAD:=hd_ (z58 x w0 w' w0.heap.size _ v' HX2.out HLK.out);go_wp2_with fail;refine HAD.out.mono ?_;rintro e w3 ⟨rfl,v3,h3,h4⟩;have HX3:=hd_ h3;clear h3 h4;go_wp2_with fail;go_roundw
    case rel=>exact⟨k+1,v3,by omega,by go_num,by rw[HST.out,HP.out,← List.append_assoc];exact HX3⟩
    case measure=>simp [intOf];omega
  ·have hbx:wr.cell? ⟨w0.heap.size,0,none⟩=some v':=HI.out.box.cell 0;have HT:Hid (r.take k=r):=hd_ (List.take_of_length_le (by omega))
   have HR:=hd_ (HRR.out v' wr (by have:=HI.out;rw[HT.out] at this;exact this))
   go_wp2_with fail;exact HR.out
def zmw (w:World)(p:Pat)(e:Ending)(w':World):Prop:=e=.returned (.tuple #[.int .i64 (za7 p),.bool p.rest])∧Below w.heap.size w w'
theorem zmx (p:Pat)(A:Option Addr)(c:Nat)(w:World)(hp:zae w (.slice A p.parts.length c) p)(h0:z7j p=0):
  Calls prog 61 #[.agg #[.slice A p.parts.length c,.bool p.rest]] w (zmw w p):=by
 have hB:=z0l w [.slice A p.parts.length c,.bool p.rest] 68;have hA:Below w.heap.size w (w.alloc (.cells #[.slice A p.parts.length c,.bool p.rest] 68)):=(Below.refl _ _).alloc (Nat.le_refl _) _;have HP:=hd_ hp;have HF:=hd_ (fun k (hk:k<p.parts.length)=>zch h0 hk);have hl12:=zat h0;clear hp h0;go_enter func61,ntmps61;go_upto_region 1 with fail;generalize w.alloc (.cells #[.slice A p.parts.length c,.bool p.rest] 68)=W1 at hB hA ⊢;have d0:W1.cell? ⟨w.heap.size,0,none⟩=some (.slice A p.parts.length c):=hB.cell 0;have d1:W1.cell? ⟨w.heap.size,1,none⟩=some (.bool p.rest):=hB.cell 1;have HA:=hd_ hA;clear hA hB;go_wp2_with fail;go_loop [4,12] (fun s i=>∃ k:Nat,k≤p.parts.length∧i=.int .i64 k∧s=.int .i64 (za6 p.parts k)) (fun _ i=>p.parts.length - (intOf i).toNat)
 case atStart=>exact⟨0,Nat.zero_le _,rfl,rfl⟩
 case round =>
  obtain⟨k,hk,rfl,rfl⟩:=hrel;have hsl:=zaa (l:=p.parts) k;by_cases hlt:k<p.parts.length
  ·obtain⟨ad,rfl,hab,x0⟩:=Strs.at_ (HP.out.below HA.out).1 hlt;have HT:=hd_ (fun X=>z9s p.parts[k] X ((HP.out.small) _ (List.getElem_mem _)));unfold z9p at HT;have HN:=hd_ (za8 hlt);rw[z9g (HF.out k hlt)] at HT;generalize p.parts[k]=part at x0 HT HN;generalize z7e part=st at HT HN;generalize z85 part=sx at HT;generalize za6 p.parts k=m at HN hsl;clear hab;cases st with
   | false =>
    go_wp2_with fail;refine (HT.out _).mono ?_;rintro e w' ⟨rfl,rfl⟩;go_wp2_with fail;go_round
    case rel=>exact⟨k+1,by omega,by go_num,by rw[HN.out];rfl⟩
    case measure=>simp [intOf];omega
   | true =>
    go_wp2_with fail;refine (HT.out _).mono ?_;rintro e w' ⟨rfl,rfl⟩;go_wp2_with fail;go_round
    case rel=>exact⟨k+1,by omega,by go_num,by rw[HN.out];go_num⟩
    case measure=>simp [intOf];omega
  ·have hke:k=p.parts.length:=by omega
   subst hke;rw[za9];go_wp2_with fail;go_region_law (fail)
   go_wp2_with fail;go_ret2;exact⟨rfl,HA.out.drew⟩
theorem zmy (ex:Bool)(l r:Pat)(A B:Option Addr)(a b:Nat)(w:World)(hL:zae w (.slice A l.parts.length a) l)(hR:zae w (.slice B r.parts.length b) r)(h1:z7j l=0)(h2:z7j r=0)(h3:za7 l=za7 r)(h4:l.rest=r.rest):
  Calls prog 27 #[.agg #[.bool ex,.slice A l.parts.length a,.bool l.rest,.slice B r.parts.length b,.bool r.rest]] w fun e w'=>e=.returned (.int .i64 0)∧Below w.heap.size w w':=by
 have hB:=z0l w [.bool ex,.slice A l.parts.length a,.bool l.rest,.slice B r.parts.length b,.bool r.rest] 74;have hA:Below w.heap.size w (w.alloc (.cells #[.bool ex,.slice A l.parts.length a,.bool l.rest,.slice B r.parts.length b,.bool r.rest] 74)):=(Below.refl _ _).alloc (Nat.le_refl _) _;have HCL:=hd_ (fun X (hX:Below w.heap.size w X)=>zcf l A a X (hL.below hX).1 hL.small);have HCR:=hd_ (fun X (hX:Below w.heap.size w X)=>zcf r B b X (hR.below hX).1 hR.small);have HKL:=hd_ (fun X (hX:Below w.heap.size w X)=>zmx l A a X (hL.below hX) h1);have HKR:=hd_ (fun X (hX:Below w.heap.size w X)=>zmx r B b X (hR.below hX) h2);unfold zmw at HKL HKR;rw[h1] at HCL;rw[h2] at HCR;rw[← h3,← h4] at HKR;rw[← h4] at HCR ⊢;rw[← h4] at hB hA;clear hL hR h1 h2 h3 h4;generalize za7 l=n at HKL HKR;go_enter func27,ntmps27;go_upto_region 1 with fail;generalize w.alloc (.cells #[.bool ex,.slice A l.parts.length a,.bool l.rest,.slice B r.parts.length b,.bool l.rest] 74)=W1 at hB hA ⊢;have d1:W1.cell? ⟨w.heap.size,1,none⟩=some (.slice A l.parts.length a):=hB.cell 1;have d2:W1.cell? ⟨w.heap.size,2,none⟩=some (.bool l.rest):=hB.cell 2;have HB:=hd_ hB;have HA:=hd_ hA;have HC:=hd_ (HCL.out W1 hA);clear hA hB HCL;go_wp2_with fail;refine HC.out.mono ?_;rintro e w2 ⟨rfl,hb⟩;have HB:=hd_ (HB.out.below hb HB.out.lt);have HA:=hd_ (z0r HA.out hb);clear hb d1 d2 HC;have d3:w2.cell? ⟨w.heap.size,3,none⟩=some (.slice B r.parts.length b):=HB.out.cell 3;have d4:w2.cell? ⟨w.heap.size,4,none⟩=some (.bool l.rest):=HB.out.cell 4;have HC:=hd_ (HCR.out w2 HA.out);clear HCR;go_wp2_with fail;refine HC.out.mono ?_;rintro e w3 ⟨rfl,hb⟩;have HB:=hd_ (HB.out.below hb HB.out.lt);have HA:=hd_ (z0r HA.out hb);clear hb d3 d4 HC;have d1:w3.cell? ⟨w.heap.size,1,none⟩=some (.slice A l.parts.length a):=HB.out.cell 1;have d2:w3.cell? ⟨w.heap.size,2,none⟩=some (.bool l.rest):=HB.out.cell 2;have HC:=hd_ (HKL.out w3 HA.out);clear HKL;go_wp2_with fail;refine HC.out.mono ?_;rintro e w4 ⟨rfl,hb⟩;have HB:=hd_ (HB.out.below hb HB.out.lt)
 have HA:=hd_ (z0r HA.out hb);clear hb d1 d2 HC;have d3:w4.cell? ⟨w.heap.size,3,none⟩=some (.slice B r.parts.length b):=HB.out.cell 3;have d4:w4.cell? ⟨w.heap.size,4,none⟩=some (.bool l.rest):=HB.out.cell 4;have HC:=hd_ (HKR.out w4 HA.out);clear HKR;go_wp2_with fail;refine HC.out.mono ?_;rintro e w5 ⟨rfl,hb⟩;have HA:=hd_ (z0r HA.out hb);clear hb d3 d4 HC;have q1:((n:Int) != (n:Int))=false:=by simp
 cases l.rest
 all_goals
  go_wp2_with fail;go_ret;exact⟨rfl,HA.out⟩
