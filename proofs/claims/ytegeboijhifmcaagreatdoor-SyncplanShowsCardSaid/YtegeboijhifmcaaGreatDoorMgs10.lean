/- A part of the proof. -/
import Derived.Test.YtegeboijhifmcaaGreatDoorMgs8
import Derived.Maps.OwnSet
import Derived.Deep.CutBlock
set_option linter.unusedVariables false
set_option linter.unusedSimpArgs false
set_option maxHeartbeats 4000000
set_option maxRecDepth 100000
namespace Go.Proofs.YtegeboijhifmcaaGreatDoor
open Go.RowKit
theorem zqq (w:World)(n:Nat):Below w.heap.size w (w.drewN n):=⟨rfl,rfl,rfl,Nat.le_refl _,fun _ _=>rfl⟩
structure z6t (S:List Nat)(w w':World):Prop where
 os:w'.os=w.os
 tape:w'.tape=w.tape
 output:w'.output=w.output
 size:w.heap.size≤w'.heap.size
 block:∀ k,k<w.heap.size→k∉S→w'.heap[k]? = w.heap[k]?
theorem z6t.below {S:List Nat}{w w':World}(h:Below w.heap.size w w'):z6t S w w':=⟨h.os,h.tape,h.output,h.size,fun k hk _=>h.block k hk⟩
theorem z6t.grown {S:List Nat}{w w':World}{g:Nat}(h:w.grownBy w' (some g))(hg:g∈S):z6t S w w':=⟨h.os,h.tape,h.output,h.size,fun k hk hs=>h.block k hk (by intro e;injection e with e;subst e;exact hs hg)⟩
theorem z6t.trans {S:List Nat}{w w1 w2:World}(h:z6t S w w1)(h2:z6t S w1 w2):z6t S w w2:=
 ⟨h2.os.trans h.os,h2.tape.trans h.tape,h2.output.trans h.output,Nat.le_trans h.size h2.size,fun k hk hs=>(h2.block k (Nat.lt_of_lt_of_le hk h.size) hs).trans (h.block k hk hs)⟩
theorem z6t.to_below {S:List Nat}{w w':World}{B:Nat}(h:z6t S w w')(hS:∀ s∈S,B≤s)(hB:B≤w.heap.size):Below B w w':=
 ⟨h.os,h.tape,h.output,h.size,fun k hk=>h.block k (Nat.lt_of_lt_of_le hk hB) (fun hs=>by have:=hS k hs;omega)⟩
theorem z6t.blk {S:List Nat}{w w':World}{g:Nat}{e:TypeId}{cs:List Value}(h:z6t S w w')(hB:Blk w g e cs)(hg:g∉S):Blk w' g e cs:=(h.block g (Blk.lt hB) hg).trans hB
theorem z6t.fmap {κ α:Type}[BEq κ]{kv:κ→Value}{enc:α→Value}{S:List Nat}{w w':World}{B:Nat}{F:κ→Option α}(h:z6t S w w')(hM:z2f kv enc w B F)(hg:B∉S):z2f kv enc w' B F:=hM.keep (h.block B hM.lt hg)
theorem Row.set_far {w:World}{size n g i:Nat}{v u:Value}{xs:List Value}(h:Row w size v n xs)(hne:v.ownBlock≠some g):Row (w.setCell ⟨g,i,none⟩ u) size v n xs:=by
 obtain⟨A,c,rfl,hc,hm,hl,h0,hx⟩:=h;refine⟨A,c,rfl,hc,hm,hl,h0,fun hn=>?_⟩;obtain⟨ad,rfl,hb,hcell⟩:=hx hn;refine⟨ad,rfl,by simpa [World.setCell] using hb,fun j u' hu=>?_⟩
 rw[← hcell j u' hu];refine World.cell?_of_block (Below.heap_setCell w _ _ _ ?_);rw[z00];intro e;exact hne (congrArg some e)
theorem Row.kept {S:List Nat}{w X:World}{size n c:Nat}{ad:Addr}{xs:List Value}(h:Row w size (.slice (some ad) n c) n xs)(hK:z6t S w X)(hb:ad.block∉S):Row X size (.slice (some ad) n c) n xs:=by
 obtain⟨A,c',e,hc,hm,hl,h0,hx⟩:=h;injection e with e1 e2 e3
 subst e3;refine⟨some ad,c,rfl,hc,hm,hl,(fun h=>by cases h),fun hn=>?_⟩
 obtain⟨ad',e4,hb',hcell⟩:=hx hn;rw[← e1] at e4;injection e4 with e4
 subst e4;refine⟨ad,rfl,Nat.lt_of_lt_of_le hb' hK.size,fun j u' hu=>?_⟩;rw[← hcell j u' hu];refine World.cell?_of_block ?_;rw[z00];exact hK.block _ hb' hb
theorem z6u (w:World)(g i:Nat)(u:Value):w.grownBy (w.setCell ⟨g,i,none⟩ u) (some g):=
 ⟨rfl,rfl,rfl,by simp,fun k _ hk=>Below.heap_setCell w ⟨g,i,none⟩ u k (fun e=>hk (by rw[e]))⟩
theorem zdy (f:ByteArray→Option Rev)(p:ByteArray):z2w f p=((f p).isSome && z2v (z2x f p).act):=by
 unfold z2w z2x;cases f p <;> rfl
theorem zdz {w:World}{g:Nat}{e:TypeId}{a0 a1 a2 a3 a4 a5 a6 a7 a8 a9 a10 a11:Value}(h:Blk w g e [a0,a1,a2,a3,a4,a5,a6,a7,a8,a9,a10,a11]):
  w.frozen? ⟨g,0,none⟩=false∧w.frozen? ⟨g,1,none⟩=false∧w.frozen? ⟨g,2,none⟩=false∧w.frozen? ⟨g,3,none⟩=false∧w.frozen? ⟨g,4,none⟩=false∧w.frozen? ⟨g,5,none⟩=false ∧
  w.frozen? ⟨g,6,none⟩=false∧w.frozen? ⟨g,7,none⟩=false∧w.frozen? ⟨g,8,none⟩=false∧w.frozen? ⟨g,9,none⟩=false∧w.frozen? ⟨g,10,none⟩=false∧w.frozen? ⟨g,11,none⟩=false:=
 ⟨h.frozen 0,h.frozen 1,h.frozen 2,h.frozen 3,h.frozen 4,h.frozen 5,h.frozen 6,h.frozen 7,h.frozen 8,h.frozen 9,h.frozen 10,h.frozen 11⟩
theorem ze0 {w:World}{g:Nat}{e:TypeId}{a0 a1 a2 a3 a4 a5 a6 a7 a8 a9 a10 a11:Value}(h:Blk w g e [a0,a1,a2,a3,a4,a5,a6,a7,a8,a9,a10,a11])(r:Rev):
  Blk ((((((((((((w.setCell ⟨g,0,none⟩ (.string r.path)).setCell ⟨g,1,none⟩ (.int .i64 r.num)).setCell ⟨g,2,none⟩ (.int .i64 r.chg)).setCell ⟨g,3,none⟩ (.int .i64 r.act)).setCell ⟨g,4,none⟩ (.int .i64 r.ty.base)).setCell ⟨g,5,none⟩ (.bool r.ty.k)).setCell ⟨g,6,none⟩ (.bool r.ty.l)).setCell ⟨g,7,none⟩ (.bool r.ty.x)).setCell ⟨g,8,none⟩ (.int .u64 r.sum)).setCell ⟨g,9,none⟩ (.int .i64 r.size)).setCell ⟨g,10,none⟩ (.string r.frm)).setCell ⟨g,11,none⟩ (.int .i64 r.fnum)) g e [.string r.path,.int .i64 r.num,.int .i64 r.chg,.int .i64 r.act,.int .i64 r.ty.base,.bool r.ty.k,.bool r.ty.l,.bool r.ty.x,.int .u64 r.sum,.int .i64 r.size,.string r.frm,.int .i64 r.fnum]:=
 ((((((((((((h.set_ 0 _).set_ 1 _).set_ 2 _).set_ 3 _).set_ 4 _).set_ 5 _).set_ 6 _).set_ 7 _).set_ 8 _).set_ 9 _).set_ 10 _).set_ 11 _)
theorem ze1 {B:Nat}{w0 w:World}{g:Nat}(h:Below B w0 w)(hg:B≤g)(r:Rev):Below B w0 ((((((((((((w.setCell ⟨g,0,none⟩ (.string r.path)).setCell ⟨g,1,none⟩ (.int .i64 r.num)).setCell ⟨g,2,none⟩ (.int .i64 r.chg)).setCell ⟨g,3,none⟩ (.int .i64 r.act)).setCell ⟨g,4,none⟩ (.int .i64 r.ty.base)).setCell ⟨g,5,none⟩ (.bool r.ty.k)).setCell ⟨g,6,none⟩ (.bool r.ty.l)).setCell ⟨g,7,none⟩ (.bool r.ty.x)).setCell ⟨g,8,none⟩ (.int .u64 r.sum)).setCell ⟨g,9,none⟩ (.int .i64 r.size)).setCell ⟨g,10,none⟩ (.string r.frm)).setCell ⟨g,11,none⟩ (.int .i64 r.fnum)):=
 ((((((((((((h.setCell hg _).setCell hg _).setCell hg _).setCell hg _).setCell hg _).setCell hg _).setCell hg _).setCell hg _).setCell hg _).setCell hg _).setCell hg _).setCell hg _)
theorem ze2 (f:ByteArray→Option Rev)(p:ByteArray)(g:Nat)(dv dr ev rv:Value)(n:Int)(cl tx:ByteArray)(bl be bn:Nat)(w:World)(hk:Chk w g dv dr n cl tx ev rv bl be bn)(hL:z7r w bl f):
  Calls Tryz.prog 204 #[.pointer (some ⟨g,0,none⟩),.string p] w
   fun e w'=>e=.returned (.tuple #[.agg #[.string (z2x f p).path,.int .i64 (z2x f p).num,.int .i64 (z2x f p).chg,.int .i64 (z2x f p).act,.int .i64 (z2x f p).ty.base,.bool (z2x f p).ty.k,.bool (z2x f p).ty.l,.bool (z2x f p).ty.x,.int .u64 (z2x f p).sum,.int .i64 (z2x f p).size,.string (z2x f p).frm,.int .i64 (z2x f p).fnum],.bool (z2w f p)])∧Below w.heap.size w w':=by
 have hbW:Below w.heap.size w (w.alloc (.cells #[.string ⟨#[]⟩,.int .i64 0,.int .i64 0,.int .i64 0,.int .i64 0,.bool false,.bool false,.bool false,.int .u64 0,.int .i64 0,.string ⟨#[]⟩,.int .i64 0] 66)):=(Below.refl _ _).alloc (Nat.le_refl _) _;have hK:Chk (w.alloc (.cells #[.string ⟨#[]⟩,.int .i64 0,.int .i64 0,.int .i64 0,.int .i64 0,.bool false,.bool false,.bool false,.int .u64 0,.int .i64 0,.string ⟨#[]⟩,.int .i64 0] 66)) g dv dr n cl tx ev rv bl be bn:=Blk.below hk hbW (Blk.lt hk);have hlk:=z7r.look2 (w:=w.alloc (.cells #[.string ⟨#[]⟩,.int .i64 0,.int .i64 0,.int .i64 0,.int .i64 0,.bool false,.bool false,.bool false,.int .u64 0,.int .i64 0,.string ⟨#[]⟩,.int .i64 0] 66)) (z2f.below hL hbW) p;obtain⟨-,-,-,-,-,k7,-,-⟩:=z4a hK;clear hK;have HL:=hd_ (zdy f p);have hgl:=Blk.lt hk;generalize z2x f p=r at hlk HL ⊢;generalize (f p).isSome=b at hlk HL;obtain⟨W,hW⟩:∃ W,W=(w.alloc (.cells #[.string ⟨#[]⟩,.int .i64 0,.int .i64 0,.int .i64 0,.int .i64 0,.bool false,.bool false,.bool false,.int .u64 0,.int .i64 0,.string ⟨#[]⟩,.int .i64 0] 66)).alloc (.cells #[.string r.path,.int .i64 r.num,.int .i64 r.chg,.int .i64 r.act,.int .i64 r.ty.base,.bool r.ty.k,.bool r.ty.l,.bool r.ty.x,.int .u64 r.sum,.int .i64 r.size,.string r.frm,.int .i64 r.fnum] 66):=⟨_,rfl⟩;have hbW2:Below w.heap.size w W:=by rw[hW];exact hbW.alloc hbW.size _
 have hZ:Blk W w.heap.size 66 [.string ⟨#[]⟩,.int .i64 0,.int .i64 0,.int .i64 0,.int .i64 0,.bool false,.bool false,.bool false,.int .u64 0,.int .i64 0,.string ⟨#[]⟩,.int .i64 0]:=by rw[hW];exact (z0l w _ _).alloc _
 have hR:Blk W (w.heap.size+1) 66 [.string r.path,.int .i64 r.num,.int .i64 r.chg,.int .i64 r.act,.int .i64 r.ty.base,.bool r.ty.k,.bool r.ty.l,.bool r.ty.x,.int .u64 r.sum,.int .i64 r.size,.string r.frm,.int .i64 r.fnum]:=by
  rw[hW];have:=z0l (w.alloc (.cells #[.string ⟨#[]⟩,.int .i64 0,.int .i64 0,.int .i64 0,.int .i64 0,.bool false,.bool false,.bool false,.int .u64 0,.int .i64 0,.string ⟨#[]⟩,.int .i64 0] 66)) [.string r.path,.int .i64 r.num,.int .i64 r.chg,.int .i64 r.act,.int .i64 r.ty.base,.bool r.ty.k,.bool r.ty.l,.bool r.ty.x,.int .u64 r.sum,.int .i64 r.size,.string r.frm,.int .i64 r.fnum] 66;simpa using this
 have HW:=hd_ hW;clear hW;obtain⟨c0,c1,c2,c3,c4,c5,c6,c7,c8,c9,c10,c11⟩:=z7z hR;obtain⟨z0,z1,z2,z3,z4,z5,z6,z7,z8,z9,z10,z11⟩:=z7z hZ;obtain⟨y0,y1,y2,y3,y4,y5,y6,y7,y8,y9,y10,y11⟩:=zdz hZ;cases b
 ·go_enter Tryz.func204,Tryz.ntmps204;go_wp2_with fail;rw[← HW.out];clear hlk k7 hbW;go_region
  have hZ2:=ze0 hZ r;have hB2:=ze1 hbW2 (Nat.le_refl w.heap.size) r;generalize ((((((((((((W.setCell ⟨w.heap.size,0,none⟩ (.string r.path)).setCell ⟨w.heap.size,1,none⟩ (.int .i64 r.num)).setCell ⟨w.heap.size,2,none⟩ (.int .i64 r.chg)).setCell ⟨w.heap.size,3,none⟩ (.int .i64 r.act)).setCell ⟨w.heap.size,4,none⟩ (.int .i64 r.ty.base)).setCell ⟨w.heap.size,5,none⟩ (.bool r.ty.k)).setCell ⟨w.heap.size,6,none⟩ (.bool r.ty.l)).setCell ⟨w.heap.size,7,none⟩ (.bool r.ty.x)).setCell ⟨w.heap.size,8,none⟩ (.int .u64 r.sum)).setCell ⟨w.heap.size,9,none⟩ (.int .i64 r.size)).setCell ⟨w.heap.size,10,none⟩ (.string r.frm)).setCell ⟨w.heap.size,11,none⟩ (.int .i64 r.fnum))=W3 at hZ2 hB2 ⊢;go_wp2_with fail;obtain⟨e0,e1,e2,e3,e4,e5,e6,e7,e8,e9,e10,e11⟩:=z7z hZ2;refine bodyPost_ret (v:=.tuple #[.agg #[.string r.path,.int .i64 r.num,.int .i64 r.chg,.int .i64 r.act,.int .i64 r.ty.base,.bool r.ty.k,.bool r.ty.l,.bool r.ty.x,.int .u64 r.sum,.int .i64 r.size,.string r.frm,.int .i64 r.fnum],.bool false]) (by simp [results,Tryz.results204,go_sem,e0,e1,e2,e3,e4,e5,e6,e7,e8,e9,e10,e11]) rfl ⟨?_,hB2.drew⟩
  rw[HL.out];rfl
 ·go_enter Tryz.func204,Tryz.ntmps204;go_wp2_with fail;rw[← HW.out];clear hlk k7 hbW;go_region_with (go_at_call 206;refine (z3f _ _).mono ?_;rintro e w' ⟨rfl,rfl⟩)
  all_goals
   have hZ2:=ze0 hZ r;have hB2:=ze1 hbW2 (Nat.le_refl w.heap.size) r;generalize ((((((((((((W.setCell ⟨w.heap.size,0,none⟩ (.string r.path)).setCell ⟨w.heap.size,1,none⟩ (.int .i64 r.num)).setCell ⟨w.heap.size,2,none⟩ (.int .i64 r.chg)).setCell ⟨w.heap.size,3,none⟩ (.int .i64 r.act)).setCell ⟨w.heap.size,4,none⟩ (.int .i64 r.ty.base)).setCell ⟨w.heap.size,5,none⟩ (.bool r.ty.k)).setCell ⟨w.heap.size,6,none⟩ (.bool r.ty.l)).setCell ⟨w.heap.size,7,none⟩ (.bool r.ty.x)).setCell ⟨w.heap.size,8,none⟩ (.int .u64 r.sum)).setCell ⟨w.heap.size,9,none⟩ (.int .i64 r.size)).setCell ⟨w.heap.size,10,none⟩ (.string r.frm)).setCell ⟨w.heap.size,11,none⟩ (.int .i64 r.fnum))=W3 at hZ2 hB2 ⊢;go_wp2_with fail;obtain⟨e0,e1,e2,e3,e4,e5,e6,e7,e8,e9,e10,e11⟩:=z7z hZ2;refine bodyPost_ret (v:=.tuple #[.agg #[.string r.path,.int .i64 r.num,.int .i64 r.chg,.int .i64 r.act,.int .i64 r.ty.base,.bool r.ty.k,.bool r.ty.l,.bool r.ty.x,.int .u64 r.sum,.int .i64 r.size,.string r.frm,.int .i64 r.fnum],.bool (z2v r.act)]) (by simp [results,Tryz.results204,go_sem,e0,e1,e2,e3,e4,e5,e6,e7,e8,e9,e10,e11]) rfl ⟨?_,hB2.drew⟩
   rw[HL.out];rfl
theorem ze3:z2l.toList=[]:=by rw[ByteArray.toList_eq];rfl
theorem ze4 {s:ByteArray}(h:s=z2l):s.toList=[]:=by subst h;exact ze3
theorem ze5 {s:ByteArray}(h:s≠z2l):¬ s.toList=[]:=by
 intro e;apply h
 rw[← toList_inj,e,ze3]
theorem ze6 {s:ByteArray}(h:s≠z2l):s.toList.isEmpty=false:=by
 have:=ze5 h;cases hs:s.toList with
 | nil=>exact absurd hs this
 | cons a l=>rfl
theorem ze7 (a b:ByteArray):(a.toList == b.toList)=decide (a=b):=by
 rw[Bool.eq_iff_iff,beq_iff_eq,decide_eq_true_eq,toList_inj]
def zgf (w:World)(U g m:Nat):Prop:=∃(l:List Int) (A:Option Addr) (c at':Nat),Blk w g 72 [.slice A l.length c,.int .i64 at']∧at'≤m∧Row w 1 (.slice A l.length c) l.length (l.map fun(n:Int)=>.int .i64 n)∧(∀ ad,A=some ad→ad.block≠g∧ad.block<U)∧g<U
theorem zgf.mono {w:World}{U g m m':Nat}(h:zgf w U g m)(hm:m≤m'):zgf w U g m':=by
 obtain⟨l,A,c,a,h1,h2,h3,h4⟩:=h;exact⟨l,A,c,a,h1,by omega,h3,h4⟩
theorem zgf.lt {w:World}{U g m:Nat}(h:zgf w U g m):g<w.heap.size:=by
 obtain⟨l,A,c,a,h1,-⟩:=h;exact h1.lt
theorem zgf.ltU {w:World}{U g m:Nat}(h:zgf w U g m):g<U:=by
 obtain⟨l,A,c,a,-,-,-,-,h1⟩:=h;exact h1
theorem zgf.below {w w':World}{U g m:Nat}(h:zgf w U g m)(hb:Below w.heap.size w w'):zgf w' U g m:=by
 obtain⟨l,A,c,a,h1,h2,h3,h4⟩:=h;exact⟨l,A,c,a,h1.below hb h1.lt,h2,h3.below hb,h4⟩
theorem zgf.keep {w w':World}{U g m:Nat}(h:zgf w U g m)(hs:w.heap.size≤w'.heap.size)(hk:∀ x,x<U→w'.heap[x]? = w.heap[x]?):zgf w' U g m:=by
 obtain⟨l,A,c,a,h1,h2,h3,h4,h5⟩:=h;refine⟨l,A,c,a,(hk g h5).trans h1,h2,?_,h4,h5⟩;obtain⟨A',c',e,hc,hm,hl,h00,hx⟩:=h3;refine⟨A',c',e,hc,hm,hl,h00,fun hn=>?_⟩;obtain⟨ad,e2,hb,hcell⟩:=hx hn;injection e with e3 e4 e5
 refine⟨ad,e2,by omega,fun j u hu=>?_⟩
 rw[← hcell j u hu];refine World.cell?_of_block (hk _ ?_);rw[z00];exact (h4 ad (e3.trans e2)).2
theorem row_at1 {w:World}{l:List Int}{A:Option Addr}{c k:Nat}(h:Row w 1 (.slice A l.length c) l.length (l.map fun(n:Int)=>.int .i64 n))(hk:k<l.length):∃ ad,A=some ad∧ad.block<w.heap.size∧w.cell? (ad.add k)=some (.int .i64 l[k]):=by
 obtain⟨A',c',e,hc,hm,hl,h0,hx⟩:=h;injection e with e1 e2 e3
 subst e1 e3;obtain⟨ad,rfl,hb,hcell⟩:=hx (by omega)
 refine⟨ad,rfl,hb,hcell k _ ?_⟩;rw[List.getElem?_map,List.getElem?_eq_getElem hk];rfl
theorem zgg (U g m:Nat)(n:Int)(w:World)(hT:zgf w U g m)(hm:m≤1000000)(hn:n≤1000000000):
  Calls Tryz.prog 24 #[.pointer (some ⟨g,0,none⟩),.int .i64 n] w fun e w'=>∃ k,e=.returned (.int .i64 k)∧Under n k∧zgf w' U g (m+1)∧z6t [g] w w':=by
 obtain⟨l,A,c,a,hB,ha,hR,hne,hgU⟩:=hT;have x0:w.cell? ⟨g,0,none⟩=some (.slice A l.length c):=hB.cell 0;have x1:w.cell? ⟨g,1,none⟩=some (.int .i64 a):=hB.cell 1;have f1:w.frozen? ⟨g,1,none⟩=false:=hB.frozen 1;have h1:IntKind.i64.wrap ((a:Int) * 7)=(a:Int) * 7:=by rw[IntKind.wrap_i64];omega
 obtain⟨r,hr⟩:∃ r,((a:Int) * 7).tmod 11=r:=⟨_,rfl⟩;have hrb:=zgd ((a:Int) * 7) 11 (by omega)
 rw[hr] at hrb;have h2:IntKind.i64.wrap r=r:=by rw[IntKind.wrap_i64];omega
 have HR:=hd_ hR;have HB:=hd_ hB;have HNE:=hd_ hne;have HF:=hd_ (fun v X=>zge v n X hn);have HEND:Hid (∀ X,Below w.heap.size w X→X.heap.size=w.heap.size→zgf (X.setCell ⟨g,1,none⟩ (.int .i64 ((a:Int)+1))) U g (m+1)∧z6t [g] w (X.setCell ⟨g,1,none⟩ (.int .i64 ((a:Int)+1)))):=hd_ (fun X hX hs=>by
  refine⟨⟨l,A,c,a+1,(hB.below hX hB.lt).set_ 1 _,by omega,?_,hne,hgU⟩,(z6t.below hX).trans (z6t.grown (z6u X g 1 _) (by simp))⟩
  refine Row.set_far (hR.below hX) ?_;intro e;cases A with
  | none=>cases e
  | some ad=>exact (hne ad rfl).1 (by simpa [Value.ownBlock] using e))
 have ham:a≤1000000:=by omega
 clear hB hR hne hn hrb hm ha;go_enter Tryz.func24,Tryz.ntmps24;go_upto_region 2 with fail;by_cases hlt:a<l.length
 ·have q:decide ((a:Int)<(l.length:Int))=true:=by simp;omega
  obtain⟨ad,rfl,hab,s0⟩:=row_at1 HR.out hlt;generalize l[a]=v at s0;have hz:(a:Int)<(l.length:Int):=by omega
  have hw3:IntKind.i64.wrap ((a:Int)+1)=(a:Int)+1:=by rw[IntKind.wrap_i64];omega
  clear hab hlt;go_quiet (fail)
  go_upto_region 3 with fail;go_quiet (fail)
  go_wp2_with fail;refine (HF.out v _).mono ?_;rintro e w' ⟨k,rfl,hk,rfl⟩;go_wp2_with fail;go_ret;exact⟨k,rfl,hk,HEND.out _ (zqq w _) rfl⟩
 ·have q:decide ((a:Int)<(l.length:Int))=false:=by simp;omega
  have q':decide (a<l.length)=false:=by simp;omega
  have hz:¬((a:Int)<(l.length:Int)):=by omega
  have hw3:IntKind.i64.wrap ((a:Int)+1)=(a:Int)+1:=by rw[IntKind.wrap_i64];omega
  clear hlt;go_quiet (fail)
  go_wp2_with fail;refine (HF.out r _).mono ?_;rintro e w' ⟨k,rfl,hk,rfl⟩;go_wp2_with fail;go_ret;exact⟨k,rfl,hk,HEND.out _ (zqq w _) rfl⟩
end Go.Proofs.YtegeboijhifmcaaGreatDoor
