/- stockyardlaw35.haves: what its walk holds. -/
import Derived.Test.YtegeboijhifmcaaGreatDoorMgw25
import Derived.Test.YtegeboijhifmcaaGreatDoorMgw27
import Derived.Test.YtegeboijhifmcaaGreatDoorMgw21
import Derived.Test.YtegeboijhifmcaaGreatDoorMgw22
import Derived.Test.YtegeboijhifmcaaGreatDoorMgw6
import Derived.Test.YtegeboijhifmcaaGreatDoorMgw19
import Derived.Test.YtegeboijhifmcaaGreatDoorMgw24
import Derived.Test.YtegeboijhifmcaaGreatDoorMgw23
import Derived.Deep.LoopGhost
namespace Go.Proofs.YtegeboijhifmcaaGreatDoor
set_option linter.unusedVariables false
set_option linter.unusedSimpArgs false
set_option maxHeartbeats 8000000
set_option maxRecDepth 100000
open Go.RowKit
theorem zmw {D:List Rev}{n:Nat}(h:zmr D n):∀ r∈D,r.num≤n:=fun r hr=>by
 obtain⟨i,hi,e⟩:=List.getElem_of_mem (zgq.2 ⟨hr,rfl⟩:r∈zgp D r.path);have h1:=h.num r.path i hi;rw[e] at h1;have h2:=zgw D r.path;have:=h.len;omega
theorem zfi.of_congr {f g:ByteArray→Option ByteArray}(h:zfi g)(e:∀ p∈zff,f p=g p):zfi f:=
 ⟨fun p hp l hl=>h.path p hp l (by rw[← e p hp];exact hl),fun p hp q hq l h1 h2=>h.inj p hp q hq l (by rw[← e p hp];exact h1) (by rw[← e q hq];exact h2)⟩
structure zmx (w wr:World)(U g m B B2:Nat)(WL:List Hav)(k:Nat)(out:List Hav)(gv c:Nat)(A2:Option Addr)(c2:Nat)(y:Hav):Prop where
 kept:z6t [g] w wr
 tape:zgf wr U g m
 own:∃ xs,wr.ownsRow B 44 3 (.slice (some ⟨gv,0,none⟩) WL.length c) WL.length xs∧(∀ j,(k+1) * 3≤j→xs[j]? = (WL.flatMap Hav.cells)[j]?)∧xs[k * 3]? = some (.string y.path)∧xs[k * 3+1]? = some (.int .i64 y.num)∧xs[k * 3+2]? = some (.string y.loc)
 out:wr.ownsRow B2 44 3 (.slice A2 out.length c2) out.length (out.flatMap Hav.cells)
 le:w.heap.size≤B
 le2:gv<B2
 gU:g<w.heap.size
 UU:U≤w.heap.size
 b2:B2≤wr.heap.size
section
variable {w wr w' : World} {U g m m' B B2 k gv c c2 : Nat} {WL out : List Hav} {A2 : Option Addr} {y : Hav}
theorem zmx.gv_ge (h:zmx w wr U g m B B2 WL k out gv c A2 c2 y):B≤gv∧w.heap.size≤gv:=by
 obtain⟨xs,h1,-,h2,-⟩:=h.own;have:=(zac h1 h2).2.2;exact⟨this,Nat.le_trans h.le this⟩
theorem zmx.next (h:zmx w wr U g m B B2 WL k out gv c A2 c2 y)(hK:z6t [g] wr w')(hT:zgf w' U g m'):zmx w w' U g m' B B2 WL k out gv c A2 c2 y:=by
 have hg:=h.gv_ge;have hgU:=h.gU;have hle:=h.le;have hle2:=h.le2;obtain⟨xs,h1,h2⟩:=h.own;exact⟨h.kept.trans hK,hT,⟨xs,zlh h1 hK (fun x hx=>by have:=(h1.lt x hx).1;rw[List.mem_singleton];omega),h2⟩,zlh h.out hK (fun x hx=>by have:=(h.out.lt x hx).1;rw[List.mem_singleton];omega),h.le,h.le2,h.gU,h.UU,Nat.le_trans h.b2 hK.size⟩
theorem zmx.under (h:zmx w wr U g m B B2 WL k out gv c A2 c2 y)(hb:Below wr.heap.size wr w'):zmx w w' U g m B B2 WL k out gv c A2 c2 y:=h.next (z6t.below hb) (h.tape.below hb)
theorem zmx.cells (h:zmx w wr U g m B B2 WL k out gv c A2 c2 y):(wr.cell? ⟨gv,k * 3,none⟩=some (.string y.path)∧wr.cell? ⟨gv,k * 3+1,none⟩=some (.int .i64 y.num)∧wr.cell? ⟨gv,k * 3+2,none⟩=some (.string y.loc))∧wr.frozen? ⟨gv,k * 3+1,none⟩=false∧wr.frozen? ⟨gv,k * 3+2,none⟩=false:=by
 obtain⟨xs,h1,-,h2,h3,h4⟩:=h.own;exact⟨⟨(zac h1 h2).1,(zac h1 h3).1,(zac h1 h4).1⟩,(zac h1 h3).2.1,(zac h1 h4).2.1⟩
theorem zmx.set_ (h:zmx w wr U g m B B2 WL k out gv c A2 c2 y)(i:Nat)(u:Value)(y':Hav)(hi:i<3)
  (h0:[Value.string y'.path,.int .i64 y'.num,.string y'.loc]=[Value.string y.path,.int .i64 y.num,.string y.loc].set i u):zmx w (wr.setCell ⟨gv,k * 3+i,none⟩ u) U g m B B2 WL k out gv c A2 c2 y':=by
 obtain⟨h5,h6⟩:=h.gv_ge;have hUU:=h.UU;have hgU:=h.gU;have hb:Below w.heap.size wr (wr.setCell ⟨gv,k * 3+i,none⟩ u):=(Below.refl w.heap.size wr).setCell (p:=⟨gv,k * 3+i,none⟩) h6 u;have hg:=z6u wr gv (k * 3+i) u;obtain⟨xs,h1,h2,h3⟩:=h.own;have ht:zgf (wr.setCell ⟨gv,k * 3+i,none⟩ u) U g m:=h.tape.keep hg.size fun x hx=>hb.block x (by omega)
 refine⟨h.kept.onto hb,ht,⟨xs.set (k * 3+i) u,zab h1 u,fun j hj=>?_,?_⟩,z4q h.out hg (fun x hx e=>by injection e with e;have:=(h.out.lt x hx).1;have:=h.le2;omega),h.le,h.le2,h.gU,h.UU,Nat.le_trans h.b2 hg.size⟩
 ·rw[List.getElem?_set_ne (by omega)];exact h2 j hj
 ·have hl:∀ j,j<3→(xs.set (k * 3+i) u)[k * 3+j]? = ([Value.string y.path,.int .i64 y.num,.string y.loc].set i u)[j]?:=by
   intro j hj;have hx:xs[k * 3+j]? = [Value.string y.path,.int .i64 y.num,.string y.loc][j]?:=by
    match j,hj with
    | 0,_=>exact h3.1
    | 1,_=>exact h3.2.1
    | 2,_=>exact h3.2.2
   by_cases e:i=j
   ·subst e;rw[List.getElem?_set_self (by have:=(List.getElem?_eq_some_iff.1 h3.2.2).1;omega),List.getElem?_set_self hi]
   ·rw[List.getElem?_set_ne (by omega),List.getElem?_set_ne e,hx]
  rw[← h0] at hl;exact⟨hl 0 (by omega),hl 1 (by omega),hl 2 (by omega)⟩
structure HlSt (w wr:World)(U g m B B2:Nat)(WL:List Hav)(k:Nat)(out:List Hav)(lv:Value)(A2:Option Addr)(c2:Nat):Prop where
 kept:z6t [g] w wr
 tape:zgf wr U g m
 own:∃ xs,wr.ownsRow B 44 3 lv WL.length xs∧(∀ j,k * 3≤j→xs[j]? = (WL.flatMap Hav.cells)[j]?)
 out:wr.ownsRow B2 44 3 (.slice A2 out.length c2) out.length (out.flatMap Hav.cells)
 le:w.heap.size≤B
 le2:∀ x,lv.ownBlock=some x→x<B2
 gU:g<w.heap.size
 UU:U≤w.heap.size
 b2:B2≤wr.heap.size
theorem HlSt.into {lv:Value}(h:HlSt w wr U g m B B2 WL k out lv A2 c2)(hk:k<WL.length):∃ gv c,lv=.slice (some ⟨gv,0,none⟩) WL.length c∧zmx w wr U g m B B2 WL k out gv c A2 c2 WL[k]:=by
 obtain⟨xs,h1,h2⟩:=h.own;obtain⟨gv,c,e⟩:=z0s h1 (by omega)
 subst e;have hf:=fun j hj=>z44 Hav.cells 3 (fun _=>rfl) WL k j hk hj;exact⟨gv,c,rfl,h.kept,h.tape,⟨xs,h1,fun j hj=>h2 j (by omega),by have:=hf 0 (by omega);rw[Nat.add_zero] at this;rw[h2 _ (by omega),this];rfl,by rw[h2 _ (by omega),hf 1 (by omega)];rfl,by rw[h2 _ (by omega),hf 2 (by omega)];rfl⟩,h.out,h.le,h.le2 gv rfl,h.gU,h.UU,h.b2⟩
theorem zmx.back (h:zmx w wr U g m B B2 WL k out gv c A2 c2 y):HlSt w wr U g m B B2 WL (k+1) out (.slice (some ⟨gv,0,none⟩) WL.length c) A2 c2:=by
 obtain⟨xs,h1,h2,-⟩:=h.own;exact⟨h.kept,h.tape,⟨xs,h1,h2⟩,h.out,h.le,(fun x e=>by injection e with e;subst e;exact h.le2),h.gU,h.UU,h.b2⟩
theorem zmx.push {w6:World}{A':Option Addr}{c':Nat}(h:zmx w wr U g m B B2 WL k out gv c A2 c2 y)(ho:w6.ownsRow B2 44 3 (.slice A' (out.length+1) c') (out.length+1) (out.flatMap Hav.cells++[.string y.path,.int .i64 y.num,.string y.loc]))(hg:wr.grownBy w6 (Value.slice A2 out.length c2).ownBlock):
  HlSt w w6 U g m B B2 WL (k+1) (out++[y]) (.slice (some ⟨gv,0,none⟩) WL.length c) A' c':=by
 obtain⟨h5,h6⟩:=h.gv_ge;have hle2:=h.le2;have hK:z6t [g] w w6:=h.kept.grown_own hg (fun x e=>by have:=(h.out.lt x e).1;omega)
 obtain⟨xs,h1,h2,-⟩:=h.own;refine⟨hK,h.tape.keep hg.size fun x hx=>hg.block x (Nat.lt_of_lt_of_le hx (Nat.le_trans h.UU h.kept.size)) (fun e=>by have:=(h.out.lt x e.symm).1;have:=h.UU;omega),⟨xs,z4q h1 hg (fun x hx e=>by have:=(h.out.lt x e).1;have hx':gv=x:=(by injection hx);omega),h2⟩,?_,h.le,(fun x e=>by injection e with e;subst e;exact h.le2),h.gU,h.UU,Nat.le_trans h.b2 hg.size⟩
 rw[List.length_append,List.flatMap_append];exact ho
end
structure Cnk where
 s:Int
 z:Int
 A:Option Addr
 n:Nat
 c:Nat
def Cnk.cells (x:Cnk):List Value:=[.int .u64 x.s,.int .i64 x.z,.slice x.A x.n x.c]
theorem cnkElem:z0e Tryz.prog 73 207 3 40:=z0f Tryz.underlying73 (z:=.agg #[.int .u64 0,.int .i64 0,.slice none 0 0]) (by kernel_rfl) rfl (by decide)
theorem eql_cid (a b c d:Int)(W:World):(binOp .eql 64 (.agg #[.int .u64 a,.int .i64 b]) (.agg #[.int .u64 c,.int .i64 d])).run Tryz.prog W=.ok (.bool (decide (a=c) && decide (b=d))) W:=by
 rw[run_eql_struct,run_equalIn_agg W 9999 64 _ _ (by kernel_rfl) (by kernel_rfl)]
 simp [go_sem,Op.eqFields]
 by_cases h1:a=c <;> by_cases h2:b=d <;> simp [h1,h2]
structure WsB (w wr:World)(U g gw m:Nat)(D:List Rev)(dv dr cv:Value)(l:List Cnk):Prop where
 kept:z6t [g] w wr
 tape:zgf wr U g m
 box:Blk wr gw 75 [dv,dr,cv]
 cnk:wr.ownsRow (gw+1) 207 3 cv l.length (l.flatMap Cnk.cells)
 revs:z45 wr dv D
 gU:g<U
 UU:U≤w.heap.size
 le:w.heap.size≤gw
 far:∀ x,dv.ownBlock=some x→x≠gw∧x<wr.heap.size∧cv.ownBlock≠some x
theorem Row.heap {w w':World}{size n:Nat}{v:Value}{xs:List Value}(h:Row w size v n xs)(hs:w.heap.size≤w'.heap.size)(hk:∀ x,x<w.heap.size→v.ownBlock=some x→w'.heap[x]? = w.heap[x]?):Row w' size v n xs:=by
 obtain⟨A,c,rfl,hc,hm,hl,h0,hr⟩:=h;refine⟨A,c,rfl,hc,hm,hl,h0,fun hn=>?_⟩;obtain⟨ad,rfl,hb,hcell⟩:=hr hn;refine⟨ad,rfl,by omega,fun j u hu=>?_⟩
 rw[← hcell j u hu];refine World.cell?_of_block ?_;rw[z00];exact hk _ hb rfl
section
variable {w wr w' : World} {U g gw m m' : Nat} {D : List Rev} {dv dr cv : Value} {l : List Cnk}
theorem WsB.next (h:WsB w wr U g gw m D dv dr cv l)(hK:z6t [g] wr w')(hT:zgf w' U g m'):WsB w w' U g gw m' D dv dr cv l:=by
 have h1:=h.gU;have h2:=h.UU;have h3:=h.le;refine⟨h.kept.trans hK,hT,hK.blk h.box (by simp;omega),zlh h.cnk hK (fun x hx=>by have:=(h.cnk.lt x hx).1;simp;omega),z45.keptN h.revs hK h.tape.nosb,h1,h2,h3,fun x hx=>⟨(h.far x hx).1,Nat.lt_of_lt_of_le (h.far x hx).2.1 hK.size,(h.far x hx).2.2⟩⟩
theorem WsB.under (h:WsB w wr U g gw m D dv dr cv l)(hb:Below wr.heap.size wr w'):WsB w w' U g gw m D dv dr cv l:=h.next (z6t.below hb) (h.tape.below hb)
theorem WsB.turn {w5:World}{cv':Value}{l':List Cnk}(h:WsB w wr U g gw m D dv dr cv l)(hg:wr.grownBy w5 cv.ownBlock)(ho:w5.ownsRow (gw+1) 207 3 cv' l'.length (l'.flatMap Cnk.cells))(hob:cv'.ownBlock=cv.ownBlock∨cv'.ownBlock=some wr.heap.size):
  WsB w (w5.setCell ⟨gw,2,none⟩ cv') U g gw m D dv dr cv' l':=by
 have h1:=h.gU;have h2:=h.UU;have h3:=h.le;have hbl:=h.box.lt;have hlt:=h.cnk.lt;have hne:some gw≠cv.ownBlock:=fun e=>by have:=(hlt gw e.symm).1;omega
 have hne':cv'.ownBlock≠some gw:=by
  rcases hob with e | e
  ·rw[e];exact fun e=>hne e.symm
  ·rw[e];intro e2;injection e2 with e2;omega
 have hk:z6t [g] w w5:=h.kept.grown_own hg (fun x e=>by have:=(hlt x e).1;omega)
 have hb5:Below w.heap.size w5 (w5.setCell ⟨gw,2,none⟩ cv'):=(Below.refl _ _).setCell (p:=⟨gw,2,none⟩) h3 _;have ht5:zgf w5 U g m:=h.tape.keep hg.size (fun x hx=>hg.block x (by have:=h.kept.size;omega) (fun e=>by have:=(hlt x e.symm).1;omega))
 refine⟨hk.onto hb5,ht5.onto h2 hb5,(h.box.grown hg hne).set_ 2 cv',z4r ho (p:=⟨gw,2,none⟩) hne' _,?_,h1,h2,h3,fun x hx=>⟨(h.far x hx).1,Nat.lt_of_lt_of_le (h.far x hx).2.1 (Nat.le_trans hg.size hb5.size),?_⟩⟩
 ·have hr5:z45 w5 dv D:=Row.heap h.revs hg.size (fun x hx e=>hg.block x hx (fun e2=>(h.far x e).2.2 e2.symm));exact Row.set_far hr5 (fun e=>(h.far gw e).1 rfl)
 ·rcases hob with e | e
  ·rw[e];exact (h.far x hx).2.2
  ·rw[e];intro e2;injection e2 with e2;have:=(h.far x hx).2.1;omega
def FdPost (w:World)(e:Ending)(w':World):Prop:=(∃(A:Option Addr) (n c:Nat) (b:Bool),e=.returned (.tuple #[.slice A n c,.bool b]))∧Below w.heap.size w w'
theorem Cnk.at_ {w:World}{B:Nat}{A:Option Addr}{c:Nat}{l:List Cnk}(h:w.ownsRow B 207 3 (.slice A l.length c) l.length (l.flatMap Cnk.cells)){k:Nat}(hk:k<l.length):
  ∃ ad,A=some ad∧w.cell? (ad.add (k * 3))=some (.int .u64 l[k].s)∧w.cell? ⟨(ad.add (k * 3)).block,(ad.add (k * 3)).off+1,none⟩=some (.int .i64 l[k].z)∧w.cell? ⟨(ad.add (k * 3)).block,(ad.add (k * 3)).off+2,none⟩=some (.slice l[k].A l[k].n l[k].c):=by
 obtain⟨ad,e,hb,hc⟩:=z49 (f:=Cnk.cells) (n:=3) (fun _=>rfl) (Row.of_own h) hk;exact⟨ad,e,hc 0 _ rfl,hc 1 _ rfl,hc 2 _ rfl⟩
theorem zp9 (h:WsB w wr U g gw m D dv dr cv l)(s z:Int)(hl:l.length≤1000000):
  Calls Tryz.prog 133 #[.pointer (some ⟨gw,0,none⟩),.agg #[.int .u64 s,.int .i64 z]] wr (FdPost wr):=by
 obtain⟨A,c,rfl⟩:=z0o h.cnk;have hA:Below wr.heap.size wr (wr.alloc (.cells #[.int .u64 s,.int .i64 z] 64)):=(Below.refl _ _).alloc (Nat.le_refl _) _;have HX:=hd_ (z0l wr [.int .u64 s,.int .i64 z] 64);have HB:=hd_ h.box;have HC:=hd_ h.cnk;have HA:=hd_ hA;clear h hA;go_enter Tryz.func133,Tryz.ntmps133;go_upto_region 1 with fail;generalize wr.alloc (.cells #[.int .u64 s,.int .i64 z] 64)=W1 at HX HA ⊢;generalize wr.heap.size=g3 at HX ⊢;go_wp2_with fail;go_loopw [6] (fun i wx=>∃ k:Nat,i=.int .i64 k∧k≤l.length∧Hid (Below W1.heap.size W1 wx)) (fun i _=>l.length - (intOf i).toNat)
 case atStart=>exact⟨0,rfl,Nat.zero_le _,hd_ (Below.refl _ _)⟩
 case round =>
  obtain⟨k,rfl,hk,HI⟩:=hrel;have HBX:=hd_ (z0r HA.out HI.out);have hb2:=(HB.out.below HBX.out HB.out.lt).cell 2;have b2:wr.cell? ⟨gw,2,none⟩=some (.slice A l.length c):=hb2;clear hb2;by_cases hlt:k<l.length
  ·obtain⟨ad,rfl,c0,c1,c2⟩:=Cnk.at_ (z0n HC.out HBX.out) hlt;have hX:=HX.out.below HI.out HX.out.lt;have x0:wr.cell? ⟨g3,0,none⟩=some (.int .u64 s):=hX.cell 0;have x1:wr.cell? ⟨g3,1,none⟩=some (.int .i64 z):=hX.cell 1;generalize l[k]=y at c0 c1 c2;obtain⟨s',z',A',n',c'⟩:=y;dsimp only at c0 c1 c2
   have heq:=eql_cid s' z' s z;generalize (decide (s'=s) && decide (z'=z))=b at heq;have hzk:(k:Int)<(l.length:Int):=by omega
   have HLT:=hd_ hlt;clear hX hlt;go_upto_region 4 with fail;go_quiet (fail)
   clear heq;cases b with
   | true =>
    go_wp2_with fail;go_ret2;exact⟨⟨_,_,_,_,rfl⟩,z0p HBX.out _⟩
   | false =>
    go_wp2_with fail;go_roundw
    case rel=>exact⟨k+1,by go_num,by have:=HLT.out;omega,hd_ (z0p HI.out _)⟩
    case measure=>have:=HLT.out;simp [intOf];omega
  ·have hke:k=l.length:=by omega
   subst hke;have hge:¬((l.length:Int)<(l.length:Int)):=by omega
   go_wp2_with fail;go_ret2;exact⟨⟨none,0,0,false,rfl⟩,HBX.out⟩
end
structure Frm (wr w':World)(g gw:Nat)(cv cv':Value):Prop where
 os:w'.os=wr.os
 tape:w'.tape=wr.tape
 output:w'.output=wr.output
 size:wr.heap.size≤w'.heap.size
 block:∀ k,k<wr.heap.size→k≠g→k≠gw→cv.ownBlock≠some k→w'.heap[k]? = wr.heap[k]?
 ob:cv'.ownBlock=cv.ownBlock∨∀ x,cv'.ownBlock=some x→wr.heap.size≤x
theorem Frm.of_kept {wr w':World}{g gw:Nat}{cv:Value}(h:z6t [g] wr w'):Frm wr w' g gw cv cv:=⟨h.os,h.tape,h.output,h.size,fun k hk h1 _ _=>h.block k hk (by simpa using h1),.inl rfl⟩
theorem Frm.trans {w1 w2 w3:World}{g gw:Nat}{a b c:Value}(h:Frm w1 w2 g gw a b)(h2:Frm w2 w3 g gw b c):Frm w1 w3 g gw a c:=by
 refine⟨h2.os.trans h.os,h2.tape.trans h.tape,h2.output.trans h.output,Nat.le_trans h.size h2.size,fun k hk h3 h4 h5=>(h2.block k (Nat.lt_of_lt_of_le hk h.size) h3 h4 ?_).trans (h.block k hk h3 h4 h5),?_⟩
 ·rcases h.ob with e | e
  ·rw[e];exact h5
  ·intro e2;have:=e k e2;omega
 ·rcases h2.ob with e | e
  ·rcases h.ob with e' | e'
   ·exact .inl (e.trans e')
   ·exact .inr fun x hx=>e' x (by rw[← e];exact hx)
  ·exact .inr fun x hx=>Nat.le_trans h.size (e x hx)
theorem Frm.blk {wr w':World}{g gw k:Nat}{cv cv':Value}{e:TypeId}{cs:List Value}(h:Frm wr w' g gw cv cv')(hB:Blk wr k e cs)(h1:k≠g)(h2:k≠gw)(h3:cv.ownBlock≠some k):Blk w' k e cs:=(h.block k hB.lt h1 h2 h3).trans hB
theorem WsB.set_at {w wr:World}{U g gw m k i:Nat}{D:List Rev}{dv dr cv u:Value}{l:List Cnk}(h:WsB w wr U g gw m D dv dr cv l)(h1:w.heap.size≤k)(h2:k≠gw)(h3:cv.ownBlock≠some k)(h4:dv.ownBlock≠some k):WsB w (wr.setCell ⟨k,i,none⟩ u) U g gw m D dv dr cv l:=by
 have hb:Below w.heap.size wr (wr.setCell ⟨k,i,none⟩ u):=(Below.refl _ _).setCell (p:=⟨k,i,none⟩) h1 u;exact⟨h.kept.onto hb,h.tape.onto h.UU hb,h.box.far (p:=⟨k,i,none⟩) h2 u,z4r h.cnk (p:=⟨k,i,none⟩) h3 u,Row.set_far h.revs h4,h.gU,h.UU,h.le,fun x hx=>⟨(h.far x hx).1,Nat.lt_of_lt_of_le (h.far x hx).2.1 hb.size,(h.far x hx).2.2⟩⟩
def WcPost (w wr:World)(U g gw m:Nat)(D:List Rev)(dv dr cv:Value)(n:Nat)(e:Ending)(w':World):Prop:=∃(s z:Nat) (cv':Value) (l':List Cnk),e=.returned (.agg #[.int .u64 s,.int .i64 z])∧WsB w w' U g gw m D dv dr cv' l'∧l'.length≤n+1∧Frm wr w' g gw cv cv'
theorem zpa {w wr:World}{U g gw m:Nat}{D:List Rev}{dv dr cv:Value}{l:List Cnk}(h:WsB w wr U g gw m D dv dr cv l)(hl:l.length≤100000)(hm:m≤90000):
  Calls Tryz.prog 91 #[.pointer (some ⟨gw,0,none⟩),.pointer (some ⟨g,0,none⟩)] wr (WcPost w wr U g gw (m+5) D dv dr cv l.length):=by
 have hA:Below wr.heap.size wr (wr.alloc (.cells #[.int .u64 0,.int .i64 0] 64)):=(Below.refl _ _).alloc (Nat.le_refl _) _;have hX:Blk _ _ 64 [.int .u64 0,.int .i64 0]:=z0l wr _ _;have hg:=h.gU;have hUU:=h.UU;have hle:=h.le;have hbl:=h.box.lt;have HO:Hid (g<wr.heap.size∧gw<wr.heap.size∧(∀ x,cv.ownBlock=some x→x<wr.heap.size)∧U≤wr.heap.size):=hd_ ⟨by omega,hbl,fun x hx=>(h.cnk.lt x hx).2,by omega⟩
 have HDV:Hid (w.heap.size≤wr.heap.size∧∀ x,dv.ownBlock=some x→x<wr.heap.size):=hd_ ⟨h.kept.size,fun x hx=>(h.far x hx).2.1⟩;have HS:=hd_ (h.under hA);have HF:=hd_ (Frm.of_kept (gw:=gw) (cv:=cv) (z6t.below (S:=[g]) hA));have HX:=hd_ hX;have HY:=hd_ (zp8 U g m _ (HS.out.tape) (by have:=hA.size;omega) (by omega))
 clear h hA hX hg hUU hle hbl;go_enter Tryz.func91,Tryz.ntmps91;go_upto_region 1 with fail;generalize wr.alloc (.cells #[.int .u64 0,.int .i64 0] 64)=W1 at HS HF HX HY ⊢;have HG4:=hd_ (rfl:wr.heap.size=wr.heap.size);generalize hg4:wr.heap.size=g4 at HX HO HDV HG4 ⊢;go_wp2_with fail;refine HY.out.mono ?_;rintro e w2 ⟨v5,n,rfl,hn,hM,hT2,hK2⟩;dsimp only;have HS2:=hd_ (HS.out.next hK2 hT2);have HF2:=hd_ (HF.out.trans (Frm.of_kept hK2));have HX2:=hd_ (hK2.blk HX.out (by have:=HO.out.1;simp;omega))
 obtain⟨bs,hbs,hB⟩:=hM.row;obtain⟨A5,c5,rfl⟩:∃ A c,v5=.slice A n c:=by obtain⟨g',cap,cur,fz,e1,-⟩:=hM;exact⟨_,_,e1⟩
 have HOF:=hd_ (rOf_any bs _ w2 hB);rw[hbs] at HOF;clear hM hT2 hK2 hbs hB HY HS HF HX;go_wp2_with fail;refine HOF.out.mono ?_;rintro e w3 ⟨⟨r,rfl⟩,hb3⟩;dsimp only;have hb4:=z0r hb3 ((Below.refl w3.heap.size w3).alloc (Nat.le_refl _) (.cells #[.int .u64 r,.int .i64 n] 64));have HS4:=hd_ (HS2.out.under hb4);have HF4:=hd_ (HF2.out.trans (Frm.of_kept (z6t.below hb4)));have HX4:=hd_ (HX2.out.below hb4 HX2.out.lt);have HI4:Hid (Blk _ _ 64 [.int .u64 r,.int .i64 n]):=hd_ (z0l w3 _ _);have HO4:Hid (g4≠w3.heap.size∧g4<w3.heap.size):=hd_ (by have h1:=HX2.out.lt;have h2:=hb3.size;omega)
 clear hb3 hb4 HS2 HF2 HX2 HOF;go_upto_region 3 with fail;generalize w3.alloc (.cells #[.int .u64 r,.int .i64 n] 64)=W4 at HS4 HF4 HX4 HI4 ⊢;generalize w3.heap.size=g6 at HI4 HO4 ⊢;have x0:W4.cell? ⟨g6,0,none⟩=some (.int .u64 r):=HI4.out.cell 0;have x1:W4.cell? ⟨g6,1,none⟩=some (.int .i64 n):=HI4.out.cell 1;have HFI:=hd_ (zp9 HS4.out r n (by omega))
 go_wp2_with fail;refine HFI.out.mono ?_;rintro e w5 ⟨⟨A6,n6,c6,b,rfl⟩,hb5⟩;dsimp only;have HS5:=hd_ (HS4.out.under hb5);have HF5:=hd_ (HF4.out.trans (Frm.of_kept (z6t.below hb5)));have HX5:=hd_ (HX4.out.below hb5 HX4.out.lt);have HI5:=hd_ (HI4.out.below hb5 HI4.out.lt);clear hb5 x0 x1 HFI HS4 HF4 HX4 HI4;go_upto_if 20 with fail
 go_cut [] (fun wx=>Hid (∃ cv' l',WsB w wx U g gw (m+5) D dv dr cv' l'∧l'.length≤l.length+1∧Frm wr wx g gw cv cv'∧Blk wx g4 64 [.int .u64 0,.int .i64 0]∧Blk wx g6 64 [.int .u64 r,.int .i64 n]))
 case first =>
  cases b with
  | true =>
   go_wp2_with fail;go_meet
   exact hd_ ⟨cv,l,HS5.out,by omega,HF5.out,HX5.out,HI5.out⟩
  | false =>
   obtain⟨Ac,cc,rfl⟩:=z0o HS5.out.cnk;have HEND:Hid (∀ Y W A' c',Below w5.heap.size w5 Y→Y.grownBy W (Value.slice Ac l.length cc).ownBlock→W.ownsRow (gw+1) 207 3 (.slice A' (l.length+1) c') (l.length+1) (l.flatMap Cnk.cells++[.int .u64 r,.int .i64 n,.slice A5 n c5])→((Value.slice A' (l.length+1) c').ownBlock=(Value.slice Ac l.length cc).ownBlock∨(Value.slice A' (l.length+1) c').ownBlock=some Y.heap.size) →
     (W.cell? ⟨gw,2,none⟩=some (.slice Ac l.length cc)∧W.frozen? ⟨gw,2,none⟩=false)∧Hid (∃ cv' l',WsB w (W.setCell ⟨gw,2,none⟩ (.slice A' (l.length+1) c')) U g gw (m+5) D dv dr cv' l'∧l'.length≤l.length+1∧Frm wr (W.setCell ⟨gw,2,none⟩ (.slice A' (l.length+1) c')) g gw (.slice Ac l.length cc) cv'∧Blk (W.setCell ⟨gw,2,none⟩ (.slice A' (l.length+1) c')) g4 64 [.int .u64 0,.int .i64 0]∧Blk (W.setCell ⟨gw,2,none⟩ (.slice A' (l.length+1) c')) g6 64 [.int .u64 r,.int .i64 n])):=hd_ fun Y W A' c' hY hG hOw hob=>by
    have hSY:=HS5.out.under hY;have hne:some gw≠(Value.slice Ac l.length cc).ownBlock:=fun e=>by have:=(HS5.out.cnk.lt gw e.symm).1;omega
    have hbx:=hSY.box.grown hG hne;have hn4:some g4≠(Value.slice Ac l.length cc).ownBlock:=fun e=>by have:=HO.out.2.2.1 g4 e.symm;omega
    have hn6:some g6≠(Value.slice Ac l.length cc).ownBlock:=fun e=>by have:=HO.out.2.2.1 g6 e.symm;have:=HO4.out.2;omega
    have hgw4:gw≠g4:=by have:=HO.out.2.1;omega
    have hgw6:gw≠g6:=by have:=HO.out.2.1;have:=HO4.out.2;omega
    refine⟨⟨hbx.cell 2,hbx.frozen 2⟩,hd_ ⟨_,l++[⟨r,n,A5,n,c5⟩],hSY.turn hG (by rw[List.length_append,List.flatMap_append];exact hOw) hob,by rw[List.length_append];exact Nat.le_refl _,⟨?_,?_,?_,?_,fun k hk h1 h2 h3=>?_,?_⟩,Blk.far ((HX5.out.below hY HX5.out.lt).grown hG hn4) hgw4 _,Blk.far ((HI5.out.below hY HI5.out.lt).grown hG hn6) hgw6 _⟩⟩
    ·exact (hG.os.trans hY.os).trans HF5.out.os
    ·exact (hG.tape.trans hY.tape).trans HF5.out.tape
    ·exact (hG.output.trans hY.output).trans HF5.out.output
    ·have h1:=HF5.out.size;have h2:=hY.size;have h3:=hG.size;have h4:=(z6u W gw 2 (.slice A' (l.length+1) c')).size;omega
    ·have h4:=(z6u W gw 2 (.slice A' (l.length+1) c')).block k (by have:=hG.size;have:=hY.size;have:=HF5.out.size;omega) (by intro e;injection e with e;exact h2 e)
     have h5:=hG.block k (by have:=hY.size;have:=HF5.out.size;omega) (fun e=>h3 e.symm)
     exact h4.trans (h5.trans ((hY.block k (by have:=HF5.out.size;omega)).trans (HF5.out.block k (by omega) h1 h2 h3)))
    ·rcases hob with e | e
     ·exact .inl e
     ·refine .inr fun x hx=>?_;rw[e] at hx;injection hx with hx
      have:=HF5.out.size;have:=hY.size;omega
   have hdr:Below w5.heap.size w5 w5.drew:=(Below.refl _ _).drew;have hda:Below w5.heap.size w5 (w5.alloc (.cells #[.int .u64 r,.int .i64 n,.slice A5 n c5] 207)).drew:=(zcf (Below.refl _ _) _).drew;have HL:Hid (∀ Y,Below w5.heap.size w5 Y→Y.cell? ⟨gw,2,none⟩=some (.slice Ac l.length cc)∧Y.cell? ⟨g6,0,none⟩=some (.int .u64 r)∧Y.cell? ⟨g6,1,none⟩=some (.int .i64 n)):=hd_ fun Y hY=>⟨(HS5.out.box.below hY HS5.out.box.lt).cell 2,(HI5.out.below hY HI5.out.lt).cell 0,(HI5.out.below hY HI5.out.lt).cell 1⟩;have HOW:Hid (∀ Y,Below w5.heap.size w5 Y→Y.ownsRow (gw+1) 207 3 (.slice Ac l.length cc) l.length (l.flatMap Cnk.cells)):=hd_ fun Y hY=>z0n HS5.out.cnk hY;have HDA:=hd_ hda;have HSZ:Hid (gw+1≤(w5.alloc (.cells #[.int .u64 r,.int .i64 n,.slice A5 n c5] 207)).drew.heap.size):=hd_ (by have:=HS5.out.box.lt;have:=hda.size;omega)
   obtain⟨b0,x0,x1⟩:=HL.out w5 (Below.refl _ _);obtain⟨b1,x2,x3⟩:=HL.out _ hdr;obtain⟨b2,x4,x5⟩:=HL.out _ hda;have hl2:l.length≤100000:=hl;go_upto_region 5 with fail;clear hdr hda;refine wp_region_noPanic ?_;go_region_law (first
    | (refine zce (base:=gw+1) rfl rfl cnkElem (HOW.out _ HDA.out) (by simp [Act.eval,Act.put];done) (Row.drew (z0i w5 [.int .u64 r,.int .i64 n,.slice A5 n c5] _ 3 1 rfl (by decide) _ rfl)) (by simp [Act.eval,Act.put];done) (by simp [Value.oneCell']) (by omega) (by unfold maxLen;omega) HSZ.out ?_;intro A' c' w6 hO6 hG6 hw6;obtain⟨⟨k1,k2⟩,hfin⟩:=HEND.out _ _ _ _ HDA.out hG6 hO6 hw6))
   all_goals
    refine NoPanic.normal ?_;go_wp2_with fail;go_meet
    exact hfin
 case rest =>
  obtain⟨cv',l',hS,hll,hF,hX,hI⟩:=hcut.out;have HE:=hd_ (And.intro hS (And.intro hll hF));obtain⟨x0,x1⟩:=(⟨hI.cell 0,hI.cell 1⟩:wc.cell? ⟨g6,0,none⟩=some (.int .u64 r)∧wc.cell? ⟨g6,1,none⟩=some (.int .i64 n));obtain⟨y0,y1⟩:=(⟨hX.cell 0,hX.cell 1⟩:wc.cell? ⟨g4,0,none⟩=some (.int .u64 0)∧wc.cell? ⟨g4,1,none⟩=some (.int .i64 0));obtain⟨f0,f1⟩:=(⟨hX.frozen 0,hX.frozen 1⟩:wc.frozen? ⟨g4,0,none⟩=false∧wc.frozen? ⟨g4,1,none⟩=false);have HX:=hd_ hX;have HNB:Hid (cv'.ownBlock≠some g4):=hd_ (zky hS.cnk hX (by decide))
  clear hcut hS hll hF hX hI HS5 HF5 HX5 HI5;go_wp2_with fail;have hd4:dv.ownBlock≠some g4:=fun e=>by have:=HDV.out.2 g4 e;omega
  have hw4:w.heap.size≤g4:=HDV.out.1;have hn4:g4≠gw:=by have:=HO.out.2.1;omega
  have hE:=(HX.out.set_ 0 (.int .u64 (r:Int))).set_ 1 (.int .i64 (n:Int));have hS8:=(HE.out.1.set_at (k:=g4) (i:=0) (u:=.int .u64 (r:Int)) hw4 hn4 HNB.out hd4).set_at (k:=g4) (i:=1) (u:=.int .i64 (n:Int)) hw4 hn4 HNB.out hd4;have hg1:=z6u wc g4 0 (.int .u64 (r:Int));have hg2:=z6u (wc.setCell ⟨g4,0,none⟩ (.int .u64 (r:Int))) g4 1 (.int .i64 (n:Int));have hF8:Frm wr ((wc.setCell ⟨g4,0,none⟩ (.int .u64 (r:Int))).setCell ⟨g4,1,none⟩ (.int .i64 (n:Int))) g gw cv cv':=by
   have hF:=HE.out.2.2;refine⟨(hg2.os.trans hg1.os).trans hF.os,(hg2.tape.trans hg1.tape).trans hF.tape,(hg2.output.trans hg1.output).trans hF.output,Nat.le_trans hF.size (Nat.le_trans hg1.size hg2.size),fun k hk h1 h2 h3=>?_,hF.ob⟩;have hk4:k≠g4:=by omega
   have hsz:=hF.size;exact (hg2.block k (by have:=hg1.size;omega) (by intro e;injection e with e;exact hk4 e)).trans ((hg1.block k (by omega) (by intro e;injection e with e;exact hk4 e)).trans (hF.block k hk h1 h2 h3))
  clear hg1 hg2;generalize (wc.setCell ⟨g4,0,none⟩ (.int .u64 (r:Int))).setCell ⟨g4,1,none⟩ (.int .i64 (n:Int))=W8 at hE hS8 hF8 ⊢;have e0:=hE.cell 0;have e1:=hE.cell 1;exact bodyPost_ret (v:=.agg #[.int .u64 (r:Int),.int .i64 (n:Int)]) (by simp [results,Tryz.results91,go_sem,e0,e1]) rfl ⟨r,n,cv',l',rfl,hS8,HE.out.2.1,hF8⟩
end Go.Proofs.YtegeboijhifmcaaGreatDoor
