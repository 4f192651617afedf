/- A part of the proof. -/
import Derived.Test.YtegeboijhifmcaaGreatDoorMgw37
import Derived.Test.YtegeboijhifmcaaGreatDoorMgw36
set_option linter.unusedVariables false
set_option linter.unusedSimpArgs false
set_option maxHeartbeats 8000000
set_option maxRecDepth 100000
namespace Go.Proofs.YtegeboijhifmcaaGreatDoor
open Go.RowKit
theorem zmw {D:List Rev}{n:Nat}(h:zmr D n):∀ r∈D,r.num≤n:=fun r hr=>by
 obtain⟨i,hi,e⟩:=List.getElem_of_mem (zgq.2 ⟨hr,rfl⟩:r∈zgp D r.path);have h1:=h.num r.path i hi;rw[e] at h1;have h2:=zgw D r.path;have:=h.len;omega
theorem zfi.of_congr {f g:ByteArray→Option ByteArray}(h:zfi g)(e:∀ p∈zff,f p=g p):zfi f:=
 ⟨fun p hp l hl=>h.path p hp l (by rw[← e p hp];exact hl),fun p hp q hq l h1 h2=>h.inj p hp q hq l (by rw[← e p hp];exact h1) (by rw[← e q hq];exact h2)⟩
structure zmx (w wr:World)(U g m B B2:Nat)(WL:List Hav)(k:Nat)(out:List Hav)(gv c:Nat)(A2:Option Addr)(c2:Nat)(y:Hav):Prop where
 kept:z6t [g] w wr
 tape:zgf wr U g m
 own:∃ xs,wr.ownsRow B 44 3 (.slice (some ⟨gv,0,none⟩) WL.length c) WL.length xs∧(∀ j,(k+1) * 3≤j→xs[j]? = (WL.flatMap Hav.cells)[j]?)∧xs[k * 3]? = some (.string y.path)∧xs[k * 3+1]? = some (.int .i64 y.num)∧xs[k * 3+2]? = some (.string y.loc)
 out:wr.ownsRow B2 44 3 (.slice A2 out.length c2) out.length (out.flatMap Hav.cells)
 le:w.heap.size≤B
 le2:gv<B2
 gU:g<w.heap.size
 UU:U≤w.heap.size
 b2:B2≤wr.heap.size
section
variable {w wr w' : World} {U g m m' B B2 k gv c c2 : Nat} {WL out : List Hav} {A2 : Option Addr} {y : Hav}
theorem zmx.gv_ge (h:zmx w wr U g m B B2 WL k out gv c A2 c2 y):B≤gv∧w.heap.size≤gv:=by
 obtain⟨xs,h1,-,h2,-⟩:=h.own;have:=(zac h1 h2).2.2;exact⟨this,Nat.le_trans h.le this⟩
theorem zmx.next (h:zmx w wr U g m B B2 WL k out gv c A2 c2 y)(hK:z6t [g] wr w')(hT:zgf w' U g m'):zmx w w' U g m' B B2 WL k out gv c A2 c2 y:=by
 have hg:=h.gv_ge;have hgU:=h.gU;have hle:=h.le;have hle2:=h.le2;obtain⟨xs,h1,h2⟩:=h.own;exact⟨h.kept.trans hK,hT,⟨xs,zlh h1 hK (fun x hx=>by have:=(h1.lt x hx).1;rw[List.mem_singleton];omega),h2⟩,zlh h.out hK (fun x hx=>by have:=(h.out.lt x hx).1;rw[List.mem_singleton];omega),h.le,h.le2,h.gU,h.UU,Nat.le_trans h.b2 hK.size⟩
theorem zmx.under (h:zmx w wr U g m B B2 WL k out gv c A2 c2 y)(hb:Below wr.heap.size wr w'):zmx w w' U g m B B2 WL k out gv c A2 c2 y:=h.next (z6t.below hb) (h.tape.below hb)
theorem zmx.cells (h:zmx w wr U g m B B2 WL k out gv c A2 c2 y):(wr.cell? ⟨gv,k * 3,none⟩=some (.string y.path)∧wr.cell? ⟨gv,k * 3+1,none⟩=some (.int .i64 y.num)∧wr.cell? ⟨gv,k * 3+2,none⟩=some (.string y.loc))∧wr.frozen? ⟨gv,k * 3+1,none⟩=false∧wr.frozen? ⟨gv,k * 3+2,none⟩=false:=by
 obtain⟨xs,h1,-,h2,h3,h4⟩:=h.own;exact⟨⟨(zac h1 h2).1,(zac h1 h3).1,(zac h1 h4).1⟩,(zac h1 h3).2.1,(zac h1 h4).2.1⟩
theorem zmx.set_ (h:zmx w wr U g m B B2 WL k out gv c A2 c2 y)(i:Nat)(u:Value)(y':Hav)(hi:i<3)
  (h0:[Value.string y'.path,.int .i64 y'.num,.string y'.loc]=[Value.string y.path,.int .i64 y.num,.string y.loc].set i u):zmx w (wr.setCell ⟨gv,k * 3+i,none⟩ u) U g m B B2 WL k out gv c A2 c2 y':=by
 obtain⟨h5,h6⟩:=h.gv_ge;have hUU:=h.UU;have hgU:=h.gU;have hb:Below w.heap.size wr (wr.setCell ⟨gv,k * 3+i,none⟩ u):=(Below.refl w.heap.size wr).setCell (p:=⟨gv,k * 3+i,none⟩) h6 u;have hg:=z6u wr gv (k * 3+i) u;obtain⟨xs,h1,h2,h3⟩:=h.own;have ht:zgf (wr.setCell ⟨gv,k * 3+i,none⟩ u) U g m:=h.tape.keep hg.size fun x hx=>hb.block x (by omega)
 refine⟨h.kept.onto hb,ht,⟨xs.set (k * 3+i) u,zab h1 u,fun j hj=>?_,?_⟩,z4q h.out hg (fun x hx e=>by injection e with e;have:=(h.out.lt x hx).1;have:=h.le2;omega),h.le,h.le2,h.gU,h.UU,Nat.le_trans h.b2 hg.size⟩
 ·rw[List.getElem?_set_ne (by omega)];exact h2 j hj
 ·have hl:∀ j,j<3→(xs.set (k * 3+i) u)[k * 3+j]? = ([Value.string y.path,.int .i64 y.num,.string y.loc].set i u)[j]?:=by
   intro j hj;have hx:xs[k * 3+j]? = [Value.string y.path,.int .i64 y.num,.string y.loc][j]?:=by
    match j,hj with
    | 0,_=>exact h3.1
    | 1,_=>exact h3.2.1
    | 2,_=>exact h3.2.2
   by_cases e:i=j
   ·subst e;rw[List.getElem?_set_self (by have:=(List.getElem?_eq_some_iff.1 h3.2.2).1;omega),List.getElem?_set_self hi]
   ·rw[List.getElem?_set_ne (by omega),List.getElem?_set_ne e,hx]
  rw[← h0] at hl;exact⟨hl 0 (by omega),hl 1 (by omega),hl 2 (by omega)⟩
structure HlSt (w wr:World)(U g m B B2:Nat)(WL:List Hav)(k:Nat)(out:List Hav)(lv:Value)(A2:Option Addr)(c2:Nat):Prop where
 kept:z6t [g] w wr
 tape:zgf wr U g m
 own:∃ xs,wr.ownsRow B 44 3 lv WL.length xs∧(∀ j,k * 3≤j→xs[j]? = (WL.flatMap Hav.cells)[j]?)
 out:wr.ownsRow B2 44 3 (.slice A2 out.length c2) out.length (out.flatMap Hav.cells)
 le:w.heap.size≤B
 le2:∀ x,lv.ownBlock=some x→x<B2
 gU:g<w.heap.size
 UU:U≤w.heap.size
 b2:B2≤wr.heap.size
theorem HlSt.into {lv:Value}(h:HlSt w wr U g m B B2 WL k out lv A2 c2)(hk:k<WL.length):∃ gv c,lv=.slice (some ⟨gv,0,none⟩) WL.length c∧zmx w wr U g m B B2 WL k out gv c A2 c2 WL[k]:=by
 obtain⟨xs,h1,h2⟩:=h.own;obtain⟨gv,c,e⟩:=z0s h1 (by omega)
 subst e;have hf:=fun j hj=>z44 Hav.cells 3 (fun _=>rfl) WL k j hk hj;exact⟨gv,c,rfl,h.kept,h.tape,⟨xs,h1,fun j hj=>h2 j (by omega),by have:=hf 0 (by omega);rw[Nat.add_zero] at this;rw[h2 _ (by omega),this];rfl,by rw[h2 _ (by omega),hf 1 (by omega)];rfl,by rw[h2 _ (by omega),hf 2 (by omega)];rfl⟩,h.out,h.le,h.le2 gv rfl,h.gU,h.UU,h.b2⟩
theorem zmx.back (h:zmx w wr U g m B B2 WL k out gv c A2 c2 y):HlSt w wr U g m B B2 WL (k+1) out (.slice (some ⟨gv,0,none⟩) WL.length c) A2 c2:=by
 obtain⟨xs,h1,h2,-⟩:=h.own;exact⟨h.kept,h.tape,⟨xs,h1,h2⟩,h.out,h.le,(fun x e=>by injection e with e;subst e;exact h.le2),h.gU,h.UU,h.b2⟩
theorem zmx.push {w6:World}{A':Option Addr}{c':Nat}(h:zmx w wr U g m B B2 WL k out gv c A2 c2 y)(ho:w6.ownsRow B2 44 3 (.slice A' (out.length+1) c') (out.length+1) (out.flatMap Hav.cells++[.string y.path,.int .i64 y.num,.string y.loc]))(hg:wr.grownBy w6 (Value.slice A2 out.length c2).ownBlock):
  HlSt w w6 U g m B B2 WL (k+1) (out++[y]) (.slice (some ⟨gv,0,none⟩) WL.length c) A' c':=by
 obtain⟨h5,h6⟩:=h.gv_ge;have hle2:=h.le2;have hK:z6t [g] w w6:=h.kept.grown_own hg (fun x e=>by have:=(h.out.lt x e).1;omega)
 obtain⟨xs,h1,h2,-⟩:=h.own;refine⟨hK,h.tape.keep hg.size fun x hx=>hg.block x (Nat.lt_of_lt_of_le hx (Nat.le_trans h.UU h.kept.size)) (fun e=>by have:=(h.out.lt x e.symm).1;have:=h.UU;omega),⟨xs,z4q h1 hg (fun x hx e=>by have:=(h.out.lt x e).1;have hx':gv=x:=(by injection hx);omega),h2⟩,?_,h.le,(fun x e=>by injection e with e;subst e;exact h.le2),h.gU,h.UU,Nat.le_trans h.b2 hg.size⟩
 rw[List.length_append,List.flatMap_append];exact ho
end
def RrFst (W wr:World)(k:Nat)(v:Value)(q:Pat):Prop:=Below W.heap.size W wr∧(k=0→v=.slice none 0 0)∧(k=1→∃(g cap c:Nat) (C:Option Addr),v=.slice (some ⟨g,0,none⟩) 1 cap∧1≤cap∧wr.cell? ⟨g,0,none⟩=some (.slice C q.parts.length c)∧wr.cell? ⟨g,1,none⟩=some (.bool q.rest)∧za9 wr (.slice C q.parts.length c) q)
theorem zo2 (l r h m:Pat)(A B C:Option Addr)(a b c:Nat)(ad:Addr)(hc:Nat)(w:World)(hl:za9 w (.slice A l.parts.length a) l)(hr:za9 w (.slice C r.parts.length c) r)(hh:za9 w (.slice B h.parts.length b) h)(hn:zcw l r h m)(hsym:znr l h)(hs2:znr r (zcv l r m))(hr2:(zcv l r m).rest=true)(hc1:1≤hc)(h0:w.cell? ad=some (.slice B h.parts.length b))(h1:w.cell? ⟨ad.block,ad.off+1,none⟩=some (.bool h.rest)):
  Calls Tryz.prog 138 #[.agg #[.slice A l.parts.length a,.bool l.rest,.slice C r.parts.length c,.bool r.rest,.slice (some ad) 1 hc]] w (zo0 w (.slice C r.parts.length c) r.rest):=by
 obtain⟨W1,hW1⟩:∃ W,W=(w.alloc (.cells #[.slice A l.parts.length a,.bool l.rest,.slice C r.parts.length c,.bool r.rest,.slice (some ad) 1 hc] 100)).alloc (.cells #[.slice none 0 0,.bool false,.slice none 0 0] 115):=⟨_,rfl⟩;have hA:Below w.heap.size w W1:=by rw[hW1];exact ((Below.refl _ _).alloc (Nat.le_refl _) _).alloc (by simp) _
 have hX1:Blk W1 w.heap.size 100 [.slice A l.parts.length a,.bool l.rest,.slice C r.parts.length c,.bool r.rest,.slice (some ad) 1 hc]:=by rw[hW1];exact (z0l w _ _).alloc _
 have h2:Blk W1 (w.heap.size+1) 115 [.slice none 0 0,.bool false,.slice none 0 0]:=by
  rw[hW1];have:=z0l (w.alloc (.cells #[.slice A l.parts.length a,.bool l.rest,.slice C r.parts.length c,.bool r.rest,.slice (some ad) 1 hc] 100)) [.slice none 0 0,.bool false,.slice none 0 0] 115;simp only[World.size_alloc] at this
  exact this
 have HW1:=hd_ hW1;have HA:=hd_ hA;have H1:=hd_ hX1;have H2:=hd_ h2;have HL:=hd_ (fun X (hX:Below w.heap.size w X)=>hl.below hX);have HR:=hd_ (fun X (hX:Below w.heap.size w X)=>hr.below hX);have HH:=hd_ (fun X (hX:Below w.heap.size w X)=>hh.below hX);have HN:=hd_ hn;have HSY:=hd_ hsym;have HS2:=hd_ hs2;have HR2:=hd_ hr2;have HC:Hid (∀ X,Below w.heap.size w X→X.cell? ad=some (.slice B h.parts.length b)∧X.cell? ⟨ad.block,ad.off+1,none⟩=some (.bool h.rest)):=hd_ fun X hX=>⟨z04 h0 hX (z03 h0),z04 h1 hX (z03 h1)⟩;clear hW1 hA hX1 h2 hl hr hh hn hsym hs2 hr2 h0 h1;go_enter Tryz.func138,Tryz.ntmps138;go_upto_region 1 with fail;rw[← HW1.out];have y4:W1.cell? ⟨w.heap.size,4,none⟩=some (.slice (some ad) 1 hc):=H1.out.cell 4;clear HW1;go_wp2_with fail;clear y4;go_loopw [4,13] (fun v i wr=>∃ k:Nat,i=.int .i64 k∧k≤1∧Hid (RrFst W1 wr k v (zcv l r m))) (fun _ i _=>1 - (intOf i).toNat)
 case atStart=>exact⟨0,rfl,Nat.zero_le _,hd_ ⟨Below.refl _ _,fun _=>rfl,fun e=>by omega⟩⟩
 case round =>
  obtain⟨k,rfl,hk,HI⟩:=hrel;by_cases hlt:k<1
  ·have hk0:k=0:=by omega
   subst hk0;obtain⟨hlow,hv,-⟩:=HI.out;have hv:=hv rfl;subst hv;obtain⟨s0,s1⟩:=HC.out wr (z0r HA.out hlow);have hX:Below wr.heap.size wr (wr.alloc (.cells #[.slice B h.parts.length b,.bool h.rest] 97)):=(Below.refl _ _).alloc (Nat.le_refl _) _;have HX5:Hid (zbo _ _ _ _):=hd_ (z0l wr [.slice B h.parts.length b,.bool h.rest] 97);have HL5:=hd_ (z0r hlow hX);clear hX hlow HI;go_upto_region 5 with fail;clear s0 s1;generalize wr.alloc (.cells #[.slice B h.parts.length b,.bool h.rest] 97)=W5 at HX5 HL5 ⊢;generalize wr.heap.size=g6 at HX5 ⊢;have HWA:=hd_ (z0r HA.out HL5.out);refine rrR5 _ (by kernel_rfl) _ l r h m A B C (some ad) a b c 1 hc w.heap.size g6 W5 (H1.out.below HL5.out H1.out.lt) HX5.out (HL.out W5 HWA.out) (HH.out W5 HWA.out) (HR.out W5 HWA.out) HN.out HSY.out ?_
   intro en eo er et eu ez eA eB g7 A' C' a' c' w' hb' hc3 hc4 hg7 hin;have HB7:=hd_ (z0r HL5.out hb');have HIN:=hd_ hin;have hc4':w'.cell? ⟨g7,4,none⟩=some (.bool (zcv l r m).rest):=by rw[hc4,HR2.out]
   clear hb' hg7 hin hc4;have hrow:=z0i w' [.slice C' (zcv l r m).parts.length c',.bool (zcv l r m).rest] 97 2 1 rfl (by unfold maxLen;omega) w'.heap.size rfl
   have HON:=hd_ (World.ownsRow_nil (w'.alloc (.cells #[.slice C' (zcv l r m).parts.length c',.bool (zcv l r m).rest] 97)) w'.heap.size 97 2);have HB8:=hd_ (z0r HB7.out ((Below.refl w'.heap.size w').alloc (Nat.le_refl _) (.cells #[.slice C' (zcv l r m).parts.length c',.bool (zcv l r m).rest] 97)));have HIN8:=hd_ (HIN.out.below ((Below.refl w'.heap.size w').alloc (Nat.le_refl _) (.cells #[.slice C' (zcv l r m).parts.length c',.bool (zcv l r m).rest] 97)));go_wp2_with (at_builtin;refine z0j rfl rfl zdd HON.out rfl hrow rfl (by simp [Value.oneCell']) (by omega) (by unfold maxLen;omega) (by simp) ?_;intro A9 c9 w8 hown hgr hob)
   have hb8:=zm9 hgr rfl;have HN9:Hid (RrFst W1 w8 1 (.slice A9 (0+1) c9) (zcv l r m)):=hd_ (by
    obtain⟨g,rfl,hcc,q0,q1⟩:=zny hown;exact⟨z0r HB8.out hb8,fun e=>by omega,fun _=>⟨g,c9,c',C',rfl,hcc,q0,q1,HIN8.out.below hb8⟩⟩)
   clear hown hgr hob hb8 hrow hc3 hc4';go_roundw
   case rel=>exact⟨1,by go_num,Nat.le_refl _,HN9⟩
   case measure=>simp [intOf]
  ·have hk1:k=1:=by omega
   subst hk1;obtain⟨hlow,-,hx⟩:=HI.out;obtain⟨g,cap,c7,C7,rfl,hcap,q0,q1,hin⟩:=hx rfl;have HB:=hd_ (z0r HA.out hlow);have hX3:=H1.out.below hlow H1.out.lt;obtain⟨y2,y3⟩:=(⟨hX3.cell 2,hX3.cell 3⟩:wr.cell? ⟨w.heap.size,2,none⟩=some (.slice C r.parts.length c)∧wr.cell? ⟨w.heap.size,3,none⟩=some (.bool r.rest));have HS:=hd_ (znz r (zcv l r m) C C7 c c7 g cap wr (HR.out wr HB.out) hin HS2.out hcap q0 q1);have HE2:=hd_ (H2.out.below hlow H2.out.lt);clear hlow hx hX3 q0 q1 hin HI;go_wp2_with fail;refine HS.out.mono ?_;rintro e w2 ⟨hb,H9,n9,c9,rfl⟩;dsimp only;have HB2:=hd_ (z0r HB.out hb);have HX2:=hd_ (HE2.out.below hb HE2.out.lt);obtain⟨u0,u1,u2⟩:=(⟨HX2.out.cell 0,HX2.out.cell 1,HX2.out.cell 2⟩:w2.cell? ⟨w.heap.size+1,0,none⟩=some (.slice none 0 0)∧w2.cell? ⟨w.heap.size+1,1,none⟩=some (.bool false)∧w2.cell? ⟨w.heap.size+1,2,none⟩=some (.slice none 0 0));obtain⟨f0,f1,f2⟩:=(⟨HX2.out.frozen 0,HX2.out.frozen 1,HX2.out.frozen 2⟩:w2.frozen? ⟨w.heap.size+1,0,none⟩=false∧w2.frozen? ⟨w.heap.size+1,1,none⟩=false∧w2.frozen? ⟨w.heap.size+1,2,none⟩=false);clear hb y2 y3 HS;go_wp2_with fail;have hE:=((HX2.out.set_ 0 (.slice C r.parts.length c)).set_ 1 (.bool r.rest)).set_ 2 (.slice H9 n9 c9);have hb:=((HB2.out.setCell (p:=⟨w.heap.size+1,0,none⟩) (by simp) (.slice C r.parts.length c)).setCell (p:=⟨w.heap.size+1,1,none⟩) (by simp) (.bool r.rest)).setCell (p:=⟨w.heap.size+1,2,none⟩) (by simp) (.slice H9 n9 c9)
   generalize ((w2.setCell ⟨w.heap.size+1,0,none⟩ (.slice C r.parts.length c)).setCell ⟨w.heap.size+1,1,none⟩ (.bool r.rest)).setCell ⟨w.heap.size+1,2,none⟩ (.slice H9 n9 c9)=W8 at hE hb ⊢;have e0:=hE.cell 0;have e1:=hE.cell 1;have e2:=hE.cell 2;exact bodyPost_ret (v:=.tuple #[.agg #[.slice C r.parts.length c,.bool r.rest,.slice H9 n9 c9],.bool true]) (by simp [results,Tryz.results138,go_sem,e0,e1,e2]) rfl ⟨hb,H9,n9,c9,rfl⟩
end Go.Proofs.YtegeboijhifmcaaGreatDoor
