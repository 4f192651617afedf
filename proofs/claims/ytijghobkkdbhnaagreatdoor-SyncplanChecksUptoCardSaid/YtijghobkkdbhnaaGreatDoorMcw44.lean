/- A part. -/
import Derived.Test.YtijghobkkdbhnaaGreatDoorMcw40
import Derived.Test.YtijghobkkdbhnaaGreatDoorMcw38
import Derived.Test.YtijghobkkdbhnaaGreatDoorMcw35
set_option linter.unusedVariables false
set_option linter.unusedSimpArgs false
set_option maxHeartbeats 16000000
set_option maxRecDepth 100000
namespace Go.Proofs.YtijghobkkdbhnaaGreatDoor
open Go.RowKit
open Go.Sort (grow)
theorem zox {w wr:World}{U g gw m:Nat}{D:List Rev}{dv dr cv:Value}{l:List Cnk}(h:WsB w wr U g gw m D dv dr cv l)(hl:l.length≤50000)(hm:m≤79000)(hD:D.length≤1000)(num:Int):
  Calls Tryz.prog 57 #[.pointer (some ⟨gw,0,none⟩),.pointer (some ⟨g,0,none⟩),.int .i64 num] wr (ChPost w wr U g gw (m+70) D dv dr cv l.length num):=by
 obtain⟨Ar,cr,rfl,-⟩:=id h.revs;obtain⟨W2,hW2⟩:∃ W,W=(wr.alloc (.cells #[.int .i64 0,.string ⟨#[]⟩,.string ⟨#[]⟩,.slice none 0 0,.slice none 0 0] 105)).alloc (.cells #[.int .i64 num,.string ⟨#[]⟩,.string ⟨#[]⟩,.slice none 0 0,.slice none 0 0] 105):=⟨_,rfl⟩;have hb2:zB wr W2:=by rw[hW2];exact ((Below.refl _ _).alloc (Nat.le_refl _) _).alloc (by simp) _
 have hs2:W2.heap.size=wr.heap.size+1+1:=by rw[hW2];simp
 have h6:Blk W2 wr.heap.size 105 [.int .i64 0,.string ⟨#[]⟩,.string ⟨#[]⟩,.slice none 0 0,.slice none 0 0]:=by rw[hW2];exact (z0l wr _ _).alloc _
 have h7:Blk W2 (wr.heap.size+1) 105 [.int .i64 num,.string ⟨#[]⟩,.string ⟨#[]⟩,.slice none 0 0,.slice none 0 0]:=by
  rw[hW2];have:=z0l (wr.alloc (.cells #[.int .i64 0,.string ⟨#[]⟩,.string ⟨#[]⟩,.slice none 0 0,.slice none 0 0] 105)) [.int .i64 num,.string ⟨#[]⟩,.string ⟨#[]⟩,.slice none 0 0,.slice none 0 0] 105;simp only[World.size_alloc] at this
  exact this
 have hb3:zB W2 (W2.alloc (.cells (zf0.map Value.string).toArray 9)):=(Below.refl _ _).alloc (Nat.le_refl _) _;have HST:Hid (zou w wr (W2.alloc (.cells (zf0.map Value.string).toArray 9)) U g gw m D (.slice Ar D.length cr) dr cv cv l wr.heap.size (wr.heap.size+1) (wr.heap.size+1+1) (wr.heap.size+1+1+1) num [] (.slice none 0 0)):=hd_ (by
  have hbx:=z0r hb2 hb3;refine⟨h.under hbx,Frm.of_kept (z9s.below hbx),h6.below hb3 h6.lt,h7.below hb3 h7.lt,?_,World.ownsRow_nil _ _ _ _,⟨Nat.le_refl _,by omega,by omega,by omega,by simp [hs2]⟩,h.kept.size,h.box.lt,fun x hx=>(h.far x hx).2.1⟩
  have:=z0l W2 (zf0.map Value.string) 9;rw[hs2] at this;exact this)
 have HW:=hd_ hW2;have HPA:=hd_ (zkz W2);have HL:Hid (∀(p:ByteArray) X,z4c X (.slice Ar D.length cr) D→Calls Tryz.prog 105 #[.agg #[.slice Ar D.length cr,dr],.string p] X fun e w'=>e=.returned (.tuple #[.bool (zhl D p),.int .i64 (zdv (zgd D p)).num])∧zB X w'):=hd_ fun p X hX=>zhn D p _ dr X hX (by omega)
 have HLA:Hid (∀(p:ByteArray) X,z4c X (.slice Ar D.length cr) D→Calls Tryz.prog 106 #[.agg #[.slice Ar D.length cr,dr],.string p] X (zgl X (zgd D p))):=hd_ fun p X hX=>zgm D p _ dr X hX (by omega)
 clear h hW2 hb2 h6 h7 hb3;rw[hs2] at HPA;go_enter Tryz.func57,Tryz.ntmps57;go_upto_region 2 with fail;rw[← HW.out];go_wp2_with fail;refine HPA.out.mono ?_;rintro e w3 ⟨rfl,rfl⟩;dsimp only;clear HPA HW hs2;go_upto_region 3 with fail;generalize W2.alloc (.cells (zf0.map Value.string).toArray 9)=W3 at HST ⊢;have hB:Hid (True):=hd_ trivial;generalize wr.heap.size+1+1+1=B at HST;generalize wr.heap.size+1+1=gp at HST ⊢;generalize wr.heap.size+1=g7 at HST ⊢;generalize hg6:wr.heap.size=g6 at HST ⊢;have HX:=hd_ (zg1 U g m 3 W3 HST.out.ws.tape (by omega) (by omega))
 go_wp2_with fail;refine HX.out.mono ?_;rintro e w4 ⟨k,rfl,hk,hT,hK⟩;dsimp only;have HS4:=hd_ (HST.out.next hK hT);obtain⟨b,q0⟩:∃ b,(k == 0)=b:=⟨_,rfl⟩;clear hk hT hK HX HST hB;go_upto_if 28 with fail
 clear q0;go_cut [9,10] (fun f t wx=>∃ a c:Int,f=.int .i64 a∧t=.int .i64 c∧Hid ((a=-1∧c=-1∨(0≤a∧a<6)∧0≤c∧c<6)∧∃ m',m'≤m+3∧zou w wr wx U g gw m' D (.slice Ar D.length cr) dr cv cv l g6 g7 gp B num [] (.slice none 0 0)))
 case first =>
  cases b with
  | false =>
   go_wp2_with fail;go_meet
   exact⟨-1,-1,rfl,rfl,hd_ ⟨.inl ⟨rfl,rfl⟩,m+1,by omega,HS4.out⟩⟩
  | true =>
   have HX:=hd_ (zg1 U g (m+1) 6 w4 HS4.out.ws.tape (by omega) (by omega))
   go_wp2_with fail;refine HX.out.mono ?_;rintro e w5 ⟨a,rfl,ha,hT,hK⟩;dsimp only;obtain⟨ja,rfl⟩:∃ j:Nat,a=j:=⟨a.toNat,by have:=ha.1;omega⟩
   have ja6:ja<6:=by have:=ha.2.1 (by omega);omega
   have HS5:=hd_ (HS4.out.next hK hT);have HX2:=hd_ (zg1 U g (m+1+1) 6 w5 HS5.out.ws.tape (by omega) (by omega))
   clear ha hT hK HX HS4;go_wp2_with fail;refine HX2.out.mono ?_;rintro e w6 ⟨c,rfl,hc,hT,hK⟩;dsimp only;obtain⟨jc,rfl⟩:∃ j:Nat,c=j:=⟨c.toNat,by have:=hc.1;omega⟩
   have jc6:jc<6:=by have:=hc.2.1 (by omega);omega
   have HS6:=hd_ (HS5.out.next hK hT);clear hc hT hK HX2 HS5;have fs:w6.cell? ⟨gp,ja,none⟩=some (.string (zf0[ja]'(show ja<zf0.length from ja6))):=(HS6.out.bp.cell ja).trans (by rw[List.getElem?_map,List.getElem?_eq_getElem (show ja<zf0.length from ja6)];rfl)
   have fc:=HL.out (zf0[ja]'(show ja<zf0.length from ja6));generalize zf0[ja]'(show ja<zf0.length from ja6)=p at fs fc;generalize zhl D p=fb at fc;generalize (zdv (zgd D p)).num=fn at fc;have cL:∀ d os,Calls Tryz.prog 105 #[.agg #[.slice Ar D.length cr,dr],.string p] (grow (redrawn w6 d) os) fun e w''=>e=.returned (.tuple #[.bool fb,.int .i64 fn])∧∃ p:Regrown,w''=grow (redrawn w6 p.d) p.os:=fun d os=>Calls.regrown_of (fc _ (HS6.out.ws.revs.below (below_regrown w6 d os)));have x0:=cell_regrown (show w6.cell? ⟨gw,0,none⟩=some (.slice Ar D.length cr) from HS6.out.ws.box.cell 0);have x1:=cell_regrown (show w6.cell? ⟨gw,1,none⟩=some dr from HS6.out.ws.box.cell 1);have x2:=cell_regrown fs;have qz:(ja:Int)<6:=by omega
   clear fs fc;go_upto_region 6 with fail;refine wp_region_quiet_below (by kernel_rfl) (by kernel_rfl) ?_
   repeat (first | go_big_quiet_step (exact cL _ _) | quiet_step (exact cL _ _))
   refine wpQuiet_nil ?_;intro _ hw9;obtain⟨⟨dq,osq⟩,hw9⟩:=hw9;subst hw9;have HS7:=hd_ (HS6.out.under (below_regrown w6 dq osq));clear cL x0 x1 x2 qz;generalize grow (redrawn w6 dq) osq=w7 at HS7 ⊢;have ts:w7.cell? ⟨gp,jc,none⟩=some (.string (zf0[jc]'(show jc<zf0.length from jc6))):=(HS7.out.bp.cell jc).trans (by rw[List.getElem?_map,List.getElem?_eq_getElem (show jc<zf0.length from jc6)];rfl)
   have tc:=HL.out (zf0[jc]'(show jc<zf0.length from jc6));generalize zf0[jc]'(show jc<zf0.length from jc6)=p at ts tc;generalize zhl D p=tb at tc;generalize (zdv (zgd D p)).num=tn at tc;have cL:∀ d os,Calls Tryz.prog 105 #[.agg #[.slice Ar D.length cr,dr],.string p] (grow (redrawn w7 d) os) fun e w''=>e=.returned (.tuple #[.bool tb,.int .i64 tn])∧∃ p:Regrown,w''=grow (redrawn w7 p.d) p.os:=fun d os=>Calls.regrown_of (tc _ (HS7.out.ws.revs.below (below_regrown w7 d os)));have x0:=cell_regrown (show w7.cell? ⟨gw,0,none⟩=some (.slice Ar D.length cr) from HS7.out.ws.box.cell 0);have x1:=cell_regrown (show w7.cell? ⟨gw,1,none⟩=some dr from HS7.out.ws.box.cell 1);have x2:=cell_regrown ts;have qz:(jc:Int)<6:=by omega
   clear ts tc;go_upto_region 7 with fail;refine wp_region_quiet_below (by kernel_rfl) (by kernel_rfl) ?_
   repeat (first | go_big_quiet_step (exact cL _ _) | quiet_step (exact cL _ _))
   refine wpQuiet_nil ?_;intro _ hw9;obtain⟨⟨dq,osq⟩,hw9⟩:=hw9;subst hw9;have HS8:=hd_ (HS7.out.under (below_regrown w7 dq osq));clear cL x0 x1 x2 qz;generalize grow (redrawn w7 dq) osq=w8 at HS8 ⊢;cases fb <;> cases tb
   all_goals
    go_wp2_with fail;go_meet
    first
     | exact⟨-1,-1,rfl,rfl,hd_ ⟨.inl ⟨rfl,rfl⟩,m+1+1+1,by omega,HS8.out⟩⟩
     | exact⟨ja,jc,rfl,rfl,hd_ ⟨.inr ⟨⟨by omega,by omega⟩,by omega,by omega⟩,m+1+1+1,by omega,HS8.out⟩⟩
 case rest =>
  obtain⟨a,c,rfl,rfl,HX⟩:=hcut;obtain⟨hac,m',hm',hS⟩:=HX.out;have HT:=hd_ (fun(T:Code) hT=>chT10 T hT (m:=m+3) (by omega) hD rfl hl hac ⟨hS.ws.mono hm',hS.frm,hS.b6,hS.b7,hS.bp,hS.own,hS.ord,hS.lo⟩)
  clear HX hac hm' hS HS4 HL HLA;rename ∀ a w,Code.wp _ (Code.seq (Code.seq (Code.region 10 _ _) _) _) _ a w→_=>hk7
  have HK7:=hd_ hk7;clear hk7;go_wp2_with fail;exact HK7.out _ _ (HT.out _ (by kernel_rfl) _ _ _ _ _ _ _ _ _ _ _ _ _ _ _ _ _ _ _ _ _ _ _ _ _ _ _ _ _ _ _ _ _ _ _ _ _ _ _ _ _ _ _ _ _ _ _ _ _ _ _ _ _ _ _ _ _ _ _ _ _ _ _ _ _ _ _ _ _ _ _ _ _ _ _ _ _ _ _ _ _ _ _ _ _ _ _ _ _ _ _ _ _ _ _ _ _ _ _ _ _ _ _ _ _ _ _ _ _ _ _ _ _ _ _ _ _ _ _ _ _ _ _ _ _ _ _ _ _ _ _ _ _ _ _ _ _ _ _ _ _ _ _ _ _ _ _ _ _ _ _ _ _ _ _ _ _ _ _ _ _ _ _ _ _ _ _ _ _ _ _ _ _ _ _ _ _ _ _ _ _ _)
section
variable {u0 u1 u2 u3 u4 u5 u6 u7 u8 u9 gA gC gD gE gF gG gH gI gJ gK gL gM gN gO gP gQ gR gT gV gW gX gY gZ i6 i7 i8 ia : Value}
def WaOk (B:Nat)(w':World)(D:List Rev)(num:Int)(es:List Edt)(A A2:Option Addr)(n c c2:Nat)(e0:Int):Prop:=
 e0≠0∨e0=0∧n=D.length+es.length∧z4c w' (.slice A n c) (D++es.map (zhj num))∧(∀ x,(Value.slice A n c).ownBlock=some x→B≤x∧x<w'.heap.size)∧z4e w' (.slice A2 0 c2) []
theorem wa_form {w:World}{D:List Rev}{es:List Edt}{num:Int}{e:Ending}{w':World}(h:zi1 w D es num e w'):∃(A A2:Option Addr) (n c c2:Nat) (e0:Int),e=.returned (.tuple #[.agg #[.slice A n c,.slice A2 0 c2],.int .i64 e0])∧zB w w'∧WaOk w.heap.size w' D num es A A2 n c c2 e0∧(e0≠0→A=none):=by
 obtain⟨hb,⟨n,hn,rfl⟩ | ⟨A,A2,c,c2,rfl,h1,h2,h3⟩⟩:=h
 ·exact⟨none,none,0,0,0,n,rfl,hb,.inl hn,fun _=>rfl⟩
 ·exact⟨A,A2,_,c,c2,0,rfl,hb,.inr ⟨rfl,rfl,h1,h2,h3⟩,fun h=>absurd rfl h⟩
structure MkP (w V w':World)(U g gw m:Nat)(D:List Rev)(dv dr cv:Value)(n0:Nat)(num:Int)(A A2:Option Addr)(n c c2:Nat)(e0:Int)(g8:Nat)(cv':Value)(l':List Cnk)(es:List Edt):Prop where
 ws:WsB w w' U g gw m D dv dr cv' l'
 len:l'.length≤n0+6
 frm:Frm V w' g gw cv cv'
 box:Blk w' g8 27 [.slice A n c,.slice A2 0 c2]
 lt:V.heap.size≤g8
 edk:EdK D 6 es
 ok:WaOk V.heap.size w' D num es A A2 n c c2 e0
 far:∀ x,(Value.slice A n c).ownBlock=some x→cv'.ownBlock≠some x∧x≠g8
theorem zoy {w w':World}{v:Value}(h:z4e w v []):z4e w' v []:=by
 obtain⟨A,c,e,hc,hm,hl,h0,-⟩:=h;exact⟨A,c,e,hc,hm,hl,h0,fun h=>absurd h (by decide)⟩
theorem wa_far {B:Nat}{w':World}{D:List Rev}{num:Int}{es:List Edt}{A A2:Option Addr}{n c c2:Nat}{e0:Int}(h:WaOk B w' D num es A A2 n c c2 e0)(he:e0=0){x:Nat}(hx:(Value.slice A n c).ownBlock=some x):B≤x:=by
 rcases h with h | h
 ·exact absurd he h
 ·exact (h.2.2.2.1 x hx).1
theorem mk_fin {w V Y w8:World}{U g gw m:Nat}{D:List Rev}{dv dr cv:Value}{n0:Nat}{num:Int}{A A2:Option Addr}{n c c2:Nat}{e0:Int}{g8:Nat}{cv':Value}{l':List Cnk}{es:List Edt}
  (hS:WsB w w8 U g gw m D dv dr cv' l') (hl:l'.length≤n0+6) (hF:Frm V w8 g gw cv cv') (hb:Blk w8 g8 27 [.slice none 0 0,.slice none 0 0]) (h1:V.heap.size≤g8) (hw:w.heap.size≤V.heap.size) (hgw:gw<V.heap.size) (h2:cv'.ownBlock≠some g8) (h3:∀ x,dv.ownBlock=some x→x<V.heap.size)
  (h4:g8<Y.heap.size) (hcv:∀ x,cv'.ownBlock=some x→x<Y.heap.size) (hk:EdK D 6 es) (hW:WaOk Y.heap.size w8 D num es A A2 n c c2 e0) (hnil:e0≠0→A=none):
  MkP w V ((w8.setCell ⟨g8,0,none⟩ (.slice A n c)).setCell ⟨g8,1,none⟩ (.slice A2 0 c2)) U g gw m D dv dr cv n0 num A A2 n c c2 e0 g8 cv' l' es:=by
 have d3:dv.ownBlock≠some g8:=fun e=>by have:=h3 _ e;omega
 have hne:g8≠gw:=by omega
 have hg8:w.heap.size≤g8:=by omega
 have hfr:∀ x,(Value.slice A n c).ownBlock=some x→Y.heap.size≤x:=fun x hx=>by
  by_cases he:e0=0
  ·exact wa_far hW he hx
  ·have hx2:=hx;rw[hnil he] at hx2;cases hx2
 refine⟨(hS.set_at hg8 hne h2 d3).set_at hg8 hne h2 d3,hl,?_,(hb.set_ 0 _).set_ 1 _,h1,hk,?_,fun x hx=>⟨fun e=>by have:=hcv x e;have:=hfr x hx;omega,by have:=hfr x hx;omega⟩⟩
 ·exact (hF.grownAt (z9t _ g8 0 _) (fun k e=>by injection e with e;omega)).grownAt (z9t _ g8 1 _) (fun k e=>by injection e with e;omega)
 ·rcases hW with h | ⟨h5,h6,h7,h8,h9⟩
  ·exact .inl h
  ·have n8:(Value.slice A n c).ownBlock≠some g8:=fun e=>by have:=hfr _ e;omega
   exact .inr ⟨h5,h6,Row.set_far (Row.set_far h7 n8) n8,(fun x hx=>⟨by have:=(h8 x hx).1;omega,by simp;exact (h8 x hx).2⟩),zoy h9⟩
theorem mk_finN {w V Y w8:World}{U g gw m:Nat}{D:List Rev}{dv dr cv:Value}{n0:Nat}{num:Int}{A A2:Option Addr}{n c c2:Nat}{e0:Int}{cv':Value}{l':List Cnk}{es:List Edt}
  (hS:WsB w w8 U g gw m D dv dr cv' l') (hl:l'.length≤n0+6) (hF:Frm V w8 g gw cv cv') (hY:V.heap.size≤Y.heap.size) (hcv:∀ x,cv'.ownBlock=some x→x<Y.heap.size) (hk:EdK D 6 es) (hW:WaOk Y.heap.size w8 D num es A A2 n c c2 e0) (hnil:e0≠0→A=none):
  MkP w V (w8.alloc (.cells #[.slice A n c,.slice A2 0 c2] 27)) U g gw m D dv dr cv n0 num A A2 n c c2 e0 w8.heap.size cv' l' es:=by
 have hA:zB w8 (w8.alloc (.cells #[.slice A n c,.slice A2 0 c2] 27)):=(Below.refl _ _).alloc (Nat.le_refl _) _;have hfr:∀ x,(Value.slice A n c).ownBlock=some x→Y.heap.size≤x:=fun x hx=>by
  by_cases he:e0=0
  ·exact wa_far hW he hx
  ·have hx2:=hx;rw[hnil he] at hx2;cases hx2
 refine⟨hS.under hA,hl,hF.grownAt (row:=none) ⟨hA.os,hA.tape,hA.output,hA.size,fun k hk _=>hA.block k hk⟩ (fun k e=>by cases e),z0l w8 _ _,hF.size,hk,?_,fun x hx=>⟨fun e=>by have:=hcv x e;have:=hfr x hx;omega,fun e=>?_⟩⟩
 ·rcases hW with h | ⟨h5,h6,h7,h8,h9⟩
  ·exact .inl h
  ·exact .inr ⟨h5,h6,z4c.below h7 hA,(fun x hx=>⟨Nat.le_trans hY (h8 x hx).1,Nat.lt_of_lt_of_le (h8 x hx).2 hA.size⟩),zoy h9⟩
 ·rcases hW with h | ⟨h5,h6,h7,h8,h9⟩
  ·rw[hnil h] at hx;cases hx
  ·have:=(h8 x hx).2;omega
structure MkQ (w V w5:World)(U g gw m:Nat)(D:List Rev)(dv dr cv:Value)(n0:Nat)(num:Int)(cv':Value)(l':List Cnk)(es:List Edt):Prop where
 ws:WsB w w5 U g gw m D dv dr cv' l'
 len:l'.length≤n0+6
 frm:Frm V w5 g gw cv cv'
 edk:EdK D 6 es
theorem MkQ.under {w V w5 X:World}{U g gw m:Nat}{D:List Rev}{dv dr cv:Value}{n0:Nat}{num:Int}{cv':Value}{l':List Cnk}{es:List Edt}(h:MkQ w V w5 U g gw m D dv dr cv n0 num cv' l' es)(hA:zB w5 X):MkQ w V X U g gw m D dv dr cv n0 num cv' l' es:=
 ⟨h.ws.under hA,h.len,h.frm.grownAt (row:=none) ⟨hA.os,hA.tape,hA.output,hA.size,fun k hk _=>hA.block k hk⟩ (fun k e=>by cases e),h.edk⟩
theorem mkR7 (ops:Array Oper)(hops:Tryz.f21.body.bind (z0x 7)=some ops)(Q:Exit→Act→World→Prop){w V:World}{U g gw m:Nat}{D:List Rev}{Ar Aq:Option Addr}{cr cq:Nat}{cv:Value}{l:List Cnk}(num:Int)
  (hS:WsB w V U g gw m D (.slice Ar D.length cr) (.slice Aq 0 cq) cv l) (hl:l.length≤40000) (hm:m≤70000) (hD:D.length≤900) {dn:Nat} (hDp:zm7 D dn) (hdn:dn≤900) (he:∀ X,z9s [g] w X→Env X) (hQr:z4e w (.slice Aq 0 cq) [])
  (hQ:∀(eG eH eI eJ eK eL eM eN eO:Value) (A A2:Option Addr) (n c c2:Nat) (e0:Int) (g8:Nat) (cv':Value) (l':List Cnk) (es:List Edt) (w':World),Hid (MkP w V w' U g gw (m+70) D (.slice Ar D.length cr) (.slice Aq 0 cq) cv l.length num A A2 n c c2 e0 g8 cv' l' es)→Q .normal ⟨#[.pointer (some ⟨g,0,none⟩),u1,u2,u3,u4,.pointer (some ⟨gw,0,none⟩),.int .i64 num,u7,.pointer (some ⟨g8,0,none⟩),.int .i64 e0,gA,gC,gD,gE,gF,gG,gH,gI,gJ,gK,gL,gM,gN,eG,eH,eI,eJ,eK,eL,eM,eN,eO,gZ,i6,i7,i8,ia],[]⟩ w'):
  (Code.region 7 ops true).wp Tryz.prog Q ⟨#[.pointer (some ⟨g,0,none⟩),u1,u2,u3,u4,.pointer (some ⟨gw,0,none⟩),.int .i64 num,u7,u8,u9,gA,gC,gD,gE,gF,gG,gH,gI,gJ,gK,gL,gM,gN,gO,gP,gQ,gR,gT,gV,gW,gX,gY,gZ,i6,i7,i8,ia],[]⟩ V:=by
 simp only[Tryz.f21,Option.bind_some,z0x] at hops
 simp at hops
 subst hops;have HQ:=hd_ hQ;have HCH:Hid (∀ X,zB V X→Calls Tryz.prog 57 #[.pointer (some ⟨gw,0,none⟩),.pointer (some ⟨g,0,none⟩),.int .i64 num] X fun e w5=>∃(Ae:Option Addr) (ce:Nat) (es:List Edt) (cv':Value) (l':List Cnk),e=.returned (.agg #[.int .i64 num,.string ⟨#[]⟩,.string ⟨#[]⟩,.slice Ae es.length ce,.slice none 0 0])∧z4d w5 (.slice Ae es.length ce) es∧(∀ k cs,Blk X k 27 cs→V.heap.size≤k→Blk w5 k 27 cs∧cv'.ownBlock≠some k)∧MkQ w V w5 U g gw (m+70) D (.slice Ar D.length cr) (.slice Aq 0 cq) cv l.length num cv' l' es∧V.heap.size≤w5.heap.size∧X.heap.size≤w5.heap.size):=hd_ (fun X hX=>(zox (hS.under hX) (by omega) (by omega) (by omega) num).mono fun e w5 h=>by
  obtain⟨ev,es,cv',l',rfl,hE,hK,hS5,hl5,hF5⟩:=h;obtain⟨Ae,ce,rfl,-⟩:=id hE;have hF:=(Frm.of_kept (gw:=gw) (cv:=cv) (z9s.below (S:=[g]) hX)).trans hF5;have hcl:∀ x,cv.ownBlock=some x→x<V.heap.size:=fun x hx=>(hS.cnk.lt x hx).2;have h1:=hS.box.lt;have h2:=hS.gU;have h3:=hS.UU;have h4:=hS.le;refine⟨Ae,ce,es,cv',l',rfl,hE,fun k cs hB hk=>⟨hF5.blk hB (by omega) (by omega) (fun e=>by have:=hcl k e;omega),fun e=>?_⟩,⟨hS5,hl5,hF,hK⟩,Nat.le_trans hX.size hF5.size,hF5.size⟩
  rcases hF5.ob with e2 | e2
  ·rw[e2] at e;have:=hcl k e;omega
  ·have:=e2 k e;have:=hB.lt;omega)
 have HAP:Hid (∀(Ae:Option Addr) (ce:Nat) (es:List Edt) (cv':Value) (l':List Cnk) (Y:World),MkQ w V Y U g gw (m+70) D (.slice Ar D.length cr) (.slice Aq 0 cq) cv l.length num cv' l' es→z4d Y (.slice Ae es.length ce) es→Calls Tryz.prog 56 #[.agg #[.slice Ar D.length cr,.slice Aq 0 cq],.agg #[.int .i64 num,.string ⟨#[]⟩,.string ⟨#[]⟩,.slice Ae es.length ce,.slice none 0 0]] Y fun e w8=>∃(A A2:Option Addr) (n c c2:Nat) (e0:Int),e=.returned (.tuple #[.agg #[.slice A n c,.slice A2 0 c2],.int .i64 e0])∧zB Y w8∧(∀ k cs,Blk Y k 27 cs→Blk w8 k 27 cs)∧MkQ w V w8 U g gw (m+70) D (.slice Ar D.length cr) (.slice Aq 0 cq) cv l.length num cv' l' es∧WaOk Y.heap.size w8 D num es A A2 n c c2 e0∧(e0≠0→A=none)∧(∀ x,cv'.ownBlock=some x→x<Y.heap.size)):=hd_ (fun Ae ce es cv' l' Y hQ hE=>by
  refine (zi2 D es num Ar Aq Ae cr cq ce Y (he Y hQ.ws.kept) hQ.ws.revs (by omega) hE hQ.edk.len (fun x hx=>?_) (zoy hQr)).mono fun e w8 h=>?_
  ·obtain⟨j,hj,-,hp⟩:=hQ.edk.six x hx;have hb:=hQ.edk.base x hx;rw[zm8 hDp] at hb;have hlog:(zga D x.path).length≤D.length:=by unfold zga;exact List.length_filter_le _ _
   have h6:∀ p∈zf0,p.size≤2000000:=by decide
   exact⟨h6 _ (hp ▸ List.getElem_mem hj),by omega,by omega⟩
  ·obtain⟨A,A2,n,c,c2,e0,rfl,hb,hW,hn⟩:=wa_form h;exact⟨A,A2,n,c,c2,e0,rfl,hb,fun k cs hB=>hB.below hb hB.lt,hQ.under hb,hW,hn,fun x hx=>(hQ.ws.cnk.lt x hx).2⟩)
 have HCL:Hid (∀ {W:World} {cv':Value} {l':List Cnk} {es:List Edt},MkQ w V W U g gw (m+70) D (.slice Ar D.length cr) (.slice Aq 0 cq) cv l.length num cv' l' es→W.cell? ⟨gw,0,none⟩=some (.slice Ar D.length cr)∧W.cell? ⟨gw,1,none⟩=some (.slice Aq 0 cq)):=hd_ fun h=>⟨h.ws.box.cell 0,h.ws.box.cell 1⟩;have HO:Hid (w.heap.size≤V.heap.size∧gw<V.heap.size∧∀ x,(Value.slice Ar D.length cr).ownBlock=some x→x<V.heap.size):=hd_ ⟨hS.kept.size,hS.box.lt,fun x hx=>(hS.far x hx).2.1⟩;have hVA:zB V (V.alloc (.cells #[.slice none 0 0,.slice none 0 0] 27)).drew:=((Below.refl _ _).alloc (Nat.le_refl _) _).drew;have x0:V.cell? ⟨gw,0,none⟩=some (.slice Ar D.length cr):=hS.box.cell 0;have x1:V.cell? ⟨gw,1,none⟩=some (.slice Aq 0 cq):=hS.box.cell 1;have hS1:=hS.under hVA;have y0:(V.alloc (.cells #[.slice none 0 0,.slice none 0 0] 27)).drew.cell? ⟨gw,0,none⟩=some (.slice Ar D.length cr):=hS1.box.cell 0;have y1:(V.alloc (.cells #[.slice none 0 0,.slice none 0 0] 27)).drew.cell? ⟨gw,1,none⟩=some (.slice Aq 0 cq):=hS1.box.cell 1;clear hVA hS1 hS hQ hDp he hQr hl hm hD hdn;refine wp_region_noPanic ?_;go_region_law (first
  | (go_simp;go_at_call 57;refine (HCH.out _ (by repeat (first | exact Below.refl _ _ | refine Below.drew ?_ | refine z0u ?_ _))).mono ?_;rintro e w5 ⟨Ae,ce,es,cv',l',rfl,hE5,hB5,hQ5,hZ5,hZX⟩;obtain⟨p0,p1⟩:=HCL.out hQ5;(try have hblk5:=hB5 _ _ (Blk.drew' (z0l V [.slice none 0 0,.slice none 0 0] 27)) (Nat.le_refl _));(try have hblk5:=hB5 _ _ (z0l V [.slice none 0 0,.slice none 0 0] 27) (Nat.le_refl _));have hA5:zB w5 (w5.alloc (.cells #[.slice none 0 0,.slice none 0 0] 27)):=(Below.refl _ _).alloc (Nat.le_refl _) _;obtain⟨q0,q1⟩:=HCL.out (hQ5.under hA5))
  | (go_simp;go_at_call 56;refine (HAP.out Ae ce es cv' l' _ (by first | exact hQ5 | exact hQ5.under hA5) (by first | exact hE5 | exact z4d.below hE5 hA5)).mono ?_;rintro e w8 ⟨A,A2,n,c,c2,e0,rfl,hb8,hB8,hQ8,hW8,hn8,hcv8⟩;(first | (have hblk8:=hB8 _ _ hblk5.1;obtain⟨r0,r1,f0,f1⟩:=box2 hblk8) | (have hblk8:=hB8 _ _ (z0l w5 [.slice none 0 0,.slice none 0 0] 27);obtain⟨r0,r1,f0,f1⟩:=box2 hblk8) | skip))
  | fail)
 all_goals refine NoPanic.normal ?_
 all_goals first
  | exact HQ.out _ _ _ _ _ _ _ _ _ A A2 n c c2 e0 _ cv' l' es _ (mk_finN hQ8.ws hQ8.len hQ8.frm hZ5 hcv8 hQ8.edk hW8 hn8)
  | exact HQ.out _ _ _ _ _ _ _ _ _ A A2 n c c2 e0 _ cv' l' es _ (mk_fin hQ8.ws hQ8.len hQ8.frm hblk8 (Nat.le_refl _) HO.out.1 HO.out.2.1 hblk5.2 HO.out.2.2 (by have:=hZX;simp at this;omega) hcv8 hQ8.edk hW8 hn8)
  | exact HQ.out _ _ _ _ _ _ _ _ _ A A2 n c c2 e0 _ cv' l' es _ (mk_fin hQ8.ws hQ8.len hQ8.frm hblk8 hZ5 HO.out.1 HO.out.2.1 (fun e=>by have:=(hQ5.ws.cnk.lt _ e).2;omega) HO.out.2.2 (by simp) hcv8 hQ8.edk hW8 hn8)
end
