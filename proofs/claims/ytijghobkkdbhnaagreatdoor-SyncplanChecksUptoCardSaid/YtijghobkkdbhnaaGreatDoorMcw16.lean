/- A part. -/
import Derived.Test.YtijghobkkdbhnaaGreatDoorMcw7
import Derived.Test.YtijghobkkdbhnaaGreatDoorMcw5
set_option linter.unusedVariables false
set_option linter.unusedSimpArgs false
set_option maxHeartbeats 4000000
set_option maxRecDepth 100000
namespace Go.Proofs.YtijghobkkdbhnaaGreatDoor
open Go.Proofs.Tryz
open Go.RowKit
theorem zdh (f:ByteArray→Option Rev)(p:ByteArray):z32 f p=((f p).isSome && z30 (z33 f p).act):=by
 unfold z32 z33;cases f p <;> rfl
theorem zdi {w:World}{g:Nat}{e:TypeId}{a0 a1 a2 a3 a4 a5 a6 a7 a8 a9 a10 a11:Value}(h:Blk w g e [a0,a1,a2,a3,a4,a5,a6,a7,a8,a9,a10,a11]):
  w.frozen? ⟨g,0,none⟩=false∧w.frozen? ⟨g,1,none⟩=false∧w.frozen? ⟨g,2,none⟩=false∧w.frozen? ⟨g,3,none⟩=false∧w.frozen? ⟨g,4,none⟩=false∧w.frozen? ⟨g,5,none⟩=false ∧
  w.frozen? ⟨g,6,none⟩=false∧w.frozen? ⟨g,7,none⟩=false∧w.frozen? ⟨g,8,none⟩=false∧w.frozen? ⟨g,9,none⟩=false∧w.frozen? ⟨g,10,none⟩=false∧w.frozen? ⟨g,11,none⟩=false:=
 ⟨h.frozen 0,h.frozen 1,h.frozen 2,h.frozen 3,h.frozen 4,h.frozen 5,h.frozen 6,h.frozen 7,h.frozen 8,h.frozen 9,h.frozen 10,h.frozen 11⟩
theorem zdj {w:World}{g:Nat}{e:TypeId}{a0 a1 a2 a3 a4 a5 a6 a7 a8 a9 a10 a11:Value}(h:Blk w g e [a0,a1,a2,a3,a4,a5,a6,a7,a8,a9,a10,a11])(r:Rev):
  Blk ((((((((((((w.setCell ⟨g,0,none⟩ (.string r.path)).setCell ⟨g,1,none⟩ (.int .i64 r.num)).setCell ⟨g,2,none⟩ (.int .i64 r.chg)).setCell ⟨g,3,none⟩ (.int .i64 r.act)).setCell ⟨g,4,none⟩ (.int .i64 r.ty.base)).setCell ⟨g,5,none⟩ (.bool r.ty.k)).setCell ⟨g,6,none⟩ (.bool r.ty.l)).setCell ⟨g,7,none⟩ (.bool r.ty.x)).setCell ⟨g,8,none⟩ (.int .u64 r.sum)).setCell ⟨g,9,none⟩ (.int .i64 r.size)).setCell ⟨g,10,none⟩ (.string r.frm)).setCell ⟨g,11,none⟩ (.int .i64 r.fnum)) g e [.string r.path,.int .i64 r.num,.int .i64 r.chg,.int .i64 r.act,.int .i64 r.ty.base,.bool r.ty.k,.bool r.ty.l,.bool r.ty.x,.int .u64 r.sum,.int .i64 r.size,.string r.frm,.int .i64 r.fnum]:=
 ((((((((((((h.set_ 0 _).set_ 1 _).set_ 2 _).set_ 3 _).set_ 4 _).set_ 5 _).set_ 6 _).set_ 7 _).set_ 8 _).set_ 9 _).set_ 10 _).set_ 11 _)
theorem zdk {B:Nat}{w0 w:World}{g:Nat}(h:Below B w0 w)(hg:B≤g)(r:Rev):Below B w0 ((((((((((((w.setCell ⟨g,0,none⟩ (.string r.path)).setCell ⟨g,1,none⟩ (.int .i64 r.num)).setCell ⟨g,2,none⟩ (.int .i64 r.chg)).setCell ⟨g,3,none⟩ (.int .i64 r.act)).setCell ⟨g,4,none⟩ (.int .i64 r.ty.base)).setCell ⟨g,5,none⟩ (.bool r.ty.k)).setCell ⟨g,6,none⟩ (.bool r.ty.l)).setCell ⟨g,7,none⟩ (.bool r.ty.x)).setCell ⟨g,8,none⟩ (.int .u64 r.sum)).setCell ⟨g,9,none⟩ (.int .i64 r.size)).setCell ⟨g,10,none⟩ (.string r.frm)).setCell ⟨g,11,none⟩ (.int .i64 r.fnum)):=
 ((((((((((((h.setCell hg _).setCell hg _).setCell hg _).setCell hg _).setCell hg _).setCell hg _).setCell hg _).setCell hg _).setCell hg _).setCell hg _).setCell hg _).setCell hg _)
theorem zdl (f:ByteArray→Option Rev)(p:ByteArray)(g:Nat)(dv dr ev rv:Value)(n:Int)(cl tx:ByteArray)(bl be bn:Nat)(w:World)(hk:Chk w g dv dr n cl tx ev rv bl be bn)(hL:z7t w bl f):
  Calls prog 232 #[.pointer (some ⟨g,0,none⟩),.string p] w
   fun e w'=>e=.returned (.tuple #[.agg #[.string (z33 f p).path,.int .i64 (z33 f p).num,.int .i64 (z33 f p).chg,.int .i64 (z33 f p).act,.int .i64 (z33 f p).ty.base,.bool (z33 f p).ty.k,.bool (z33 f p).ty.l,.bool (z33 f p).ty.x,.int .u64 (z33 f p).sum,.int .i64 (z33 f p).size,.string (z33 f p).frm,.int .i64 (z33 f p).fnum],.bool (z32 f p)])∧zB w w':=by
 have hbW:zB w (w.alloc (.cells #[.string ⟨#[]⟩,.int .i64 0,.int .i64 0,.int .i64 0,.int .i64 0,.bool false,.bool false,.bool false,.int .u64 0,.int .i64 0,.string ⟨#[]⟩,.int .i64 0] 90)):=(Below.refl _ _).alloc (Nat.le_refl _) _;have hK:Chk (w.alloc (.cells #[.string ⟨#[]⟩,.int .i64 0,.int .i64 0,.int .i64 0,.int .i64 0,.bool false,.bool false,.bool false,.int .u64 0,.int .i64 0,.string ⟨#[]⟩,.int .i64 0] 90)) g dv dr n cl tx ev rv bl be bn:=Blk.below hk hbW (Blk.lt hk);have hlk:=z7t.look2 (w:=w.alloc (.cells #[.string ⟨#[]⟩,.int .i64 0,.int .i64 0,.int .i64 0,.int .i64 0,.bool false,.bool false,.bool false,.int .u64 0,.int .i64 0,.string ⟨#[]⟩,.int .i64 0] 90)) (z2k.below hL hbW) p;obtain⟨-,-,-,-,-,k7,-,-⟩:=z4g hK;clear hK;have HL:=hd_ (zdh f p);have hgl:=Blk.lt hk;generalize z33 f p=r at hlk HL ⊢;generalize (f p).isSome=b at hlk HL;obtain⟨W,hW⟩:∃ W,W=(w.alloc (.cells #[.string ⟨#[]⟩,.int .i64 0,.int .i64 0,.int .i64 0,.int .i64 0,.bool false,.bool false,.bool false,.int .u64 0,.int .i64 0,.string ⟨#[]⟩,.int .i64 0] 90)).alloc (.cells #[.string r.path,.int .i64 r.num,.int .i64 r.chg,.int .i64 r.act,.int .i64 r.ty.base,.bool r.ty.k,.bool r.ty.l,.bool r.ty.x,.int .u64 r.sum,.int .i64 r.size,.string r.frm,.int .i64 r.fnum] 90):=⟨_,rfl⟩;have hbW2:zB w W:=by rw[hW];exact hbW.alloc hbW.size _
 have hZ:Blk W w.heap.size 90 [.string ⟨#[]⟩,.int .i64 0,.int .i64 0,.int .i64 0,.int .i64 0,.bool false,.bool false,.bool false,.int .u64 0,.int .i64 0,.string ⟨#[]⟩,.int .i64 0]:=by rw[hW];exact (z0l w _ _).alloc _
 have hR:Blk W (w.heap.size+1) 90 [.string r.path,.int .i64 r.num,.int .i64 r.chg,.int .i64 r.act,.int .i64 r.ty.base,.bool r.ty.k,.bool r.ty.l,.bool r.ty.x,.int .u64 r.sum,.int .i64 r.size,.string r.frm,.int .i64 r.fnum]:=by
  rw[hW];have:=z0l (w.alloc (.cells #[.string ⟨#[]⟩,.int .i64 0,.int .i64 0,.int .i64 0,.int .i64 0,.bool false,.bool false,.bool false,.int .u64 0,.int .i64 0,.string ⟨#[]⟩,.int .i64 0] 90)) [.string r.path,.int .i64 r.num,.int .i64 r.chg,.int .i64 r.act,.int .i64 r.ty.base,.bool r.ty.k,.bool r.ty.l,.bool r.ty.x,.int .u64 r.sum,.int .i64 r.size,.string r.frm,.int .i64 r.fnum] 90;simpa using this
 have HW:=hd_ hW;clear hW;obtain⟨c0,c1,c2,c3,c4,c5,c6,c7,c8,c9,c10,c11⟩:=z81 hR;obtain⟨z0,z1,z2,z3,z4,z5,z6,z7,z8,z9,z10,z11⟩:=z81 hZ;obtain⟨y0,y1,y2,y3,y4,y5,y6,y7,y8,y9,y10,y11⟩:=zdi hZ;cases b
 ·go_enter func232,ntmps232;go_wp2_with fail;rw[← HW.out];clear hlk k7 hbW;go_region
  have hZ2:=zdj hZ r;have hB2:=zdk hbW2 (Nat.le_refl w.heap.size) r;generalize ((((((((((((W.setCell ⟨w.heap.size,0,none⟩ (.string r.path)).setCell ⟨w.heap.size,1,none⟩ (.int .i64 r.num)).setCell ⟨w.heap.size,2,none⟩ (.int .i64 r.chg)).setCell ⟨w.heap.size,3,none⟩ (.int .i64 r.act)).setCell ⟨w.heap.size,4,none⟩ (.int .i64 r.ty.base)).setCell ⟨w.heap.size,5,none⟩ (.bool r.ty.k)).setCell ⟨w.heap.size,6,none⟩ (.bool r.ty.l)).setCell ⟨w.heap.size,7,none⟩ (.bool r.ty.x)).setCell ⟨w.heap.size,8,none⟩ (.int .u64 r.sum)).setCell ⟨w.heap.size,9,none⟩ (.int .i64 r.size)).setCell ⟨w.heap.size,10,none⟩ (.string r.frm)).setCell ⟨w.heap.size,11,none⟩ (.int .i64 r.fnum))=W3 at hZ2 hB2 ⊢;go_wp2_with fail;obtain⟨e0,e1,e2,e3,e4,e5,e6,e7,e8,e9,e10,e11⟩:=z81 hZ2;refine bodyPost_ret (v:=.tuple #[.agg #[.string r.path,.int .i64 r.num,.int .i64 r.chg,.int .i64 r.act,.int .i64 r.ty.base,.bool r.ty.k,.bool r.ty.l,.bool r.ty.x,.int .u64 r.sum,.int .i64 r.size,.string r.frm,.int .i64 r.fnum],.bool false]) (by simp [results,results232,go_sem,e0,e1,e2,e3,e4,e5,e6,e7,e8,e9,e10,e11]) rfl ⟨?_,hB2.drew⟩
  rw[HL.out];rfl
 ·go_enter func232,ntmps232;go_wp2_with fail;rw[← HW.out];clear hlk k7 hbW;go_region_with (go_at_call 234;refine (z3k _ _).mono ?_;rintro e w' ⟨rfl,rfl⟩)
  all_goals
   have hZ2:=zdj hZ r;have hB2:=zdk hbW2 (Nat.le_refl w.heap.size) r;generalize ((((((((((((W.setCell ⟨w.heap.size,0,none⟩ (.string r.path)).setCell ⟨w.heap.size,1,none⟩ (.int .i64 r.num)).setCell ⟨w.heap.size,2,none⟩ (.int .i64 r.chg)).setCell ⟨w.heap.size,3,none⟩ (.int .i64 r.act)).setCell ⟨w.heap.size,4,none⟩ (.int .i64 r.ty.base)).setCell ⟨w.heap.size,5,none⟩ (.bool r.ty.k)).setCell ⟨w.heap.size,6,none⟩ (.bool r.ty.l)).setCell ⟨w.heap.size,7,none⟩ (.bool r.ty.x)).setCell ⟨w.heap.size,8,none⟩ (.int .u64 r.sum)).setCell ⟨w.heap.size,9,none⟩ (.int .i64 r.size)).setCell ⟨w.heap.size,10,none⟩ (.string r.frm)).setCell ⟨w.heap.size,11,none⟩ (.int .i64 r.fnum))=W3 at hZ2 hB2 ⊢;go_wp2_with fail;obtain⟨e0,e1,e2,e3,e4,e5,e6,e7,e8,e9,e10,e11⟩:=z81 hZ2;refine bodyPost_ret (v:=.tuple #[.agg #[.string r.path,.int .i64 r.num,.int .i64 r.chg,.int .i64 r.act,.int .i64 r.ty.base,.bool r.ty.k,.bool r.ty.l,.bool r.ty.x,.int .u64 r.sum,.int .i64 r.size,.string r.frm,.int .i64 r.fnum],.bool (z30 r.act)]) (by simp [results,results232,go_sem,e0,e1,e2,e3,e4,e5,e6,e7,e8,e9,e10,e11]) rfl ⟨?_,hB2.drew⟩
   rw[HL.out];rfl
def zg8:ByteArray→Option Rev:=fun _=>none
theorem knOne (p:ByteArray)(g bl be bn:Nat)(Ae:Option Addr)(ce:Nat)(w:World)(hk:Chk w g (.slice none 0 0) (.slice none 0 0) 1 ⟨#[]⟩ ⟨#[]⟩ (.slice Ae 2 ce) (.slice none 0 0) bl be bn)(hL:z7t w bl zg8):
  Calls prog 197 #[.pointer (some ⟨g,0,none⟩),.agg #[.string p,.int .i64 1,.int .i64 1,.bool false,.bool false,.bool false,.int .u64 1,.int .i64 1,.int .i64 0,.string ⟨#[]⟩,.int .i64 0,.int .i64 0]] w fun e w'=>e=.returned (.int .i64 0)∧zB w w':=by
 have hbW:zB w (w.alloc (.cells #[.string p,.int .i64 1,.int .i64 1,.bool false,.bool false,.bool false,.int .u64 1,.int .i64 1,.int .i64 0,.string ⟨#[]⟩,.int .i64 0,.int .i64 0] 100)):=(Below.refl _ _).alloc (Nat.le_refl _) _;have HLV:Hid (Calls prog 232 #[.pointer (some ⟨g,0,none⟩),.string p] (w.alloc (.cells #[.string p,.int .i64 1,.int .i64 1,.bool false,.bool false,.bool false,.int .u64 1,.int .i64 1,.int .i64 0,.string ⟨#[]⟩,.int .i64 0,.int .i64 0] 100)) fun e w'=>e=.returned (.tuple #[.agg #[.string ⟨#[]⟩,.int .i64 0,.int .i64 0,.int .i64 0,.int .i64 0,.bool false,.bool false,.bool false,.int .u64 0,.int .i64 0,.string ⟨#[]⟩,.int .i64 0],.bool false])∧Below (w.alloc (.cells #[.string p,.int .i64 1,.int .i64 1,.bool false,.bool false,.bool false,.int .u64 1,.int .i64 1,.int .i64 0,.string ⟨#[]⟩,.int .i64 0,.int .i64 0] 100)).heap.size (w.alloc (.cells #[.string p,.int .i64 1,.int .i64 1,.bool false,.bool false,.bool false,.int .u64 1,.int .i64 1,.int .i64 0,.string ⟨#[]⟩,.int .i64 0,.int .i64 0] 100)) w'):=hd_ (zdl zg8 p g _ _ _ _ 1 _ _ bl be bn _ (Blk.below hk hbW (Blk.lt hk)) (z2k.below hL hbW));have HX0:=hd_ (z0l w [.string p,.int .i64 1,.int .i64 1,.bool false,.bool false,.bool false,.int .u64 1,.int .i64 1,.int .i64 0,.string ⟨#[]⟩,.int .i64 0,.int .i64 0] 100);have HFT:=hd_ (fun W=>z3b 1 false false false W);have HIL:=hd_ (fun W=>z3k 1 W);have HB:=hd_ hbW;clear hk hL hbW;go_enter func197,ntmps197;go_wp2_with fail;refine HLV.out.mono ?_;rintro e w1 ⟨rfl,hb1⟩;dsimp only;have hX1:=(HX0.out.below hb1 HX0.out.lt).alloc (.cells #[.string ⟨#[]⟩,.int .i64 0,.int .i64 0,.int .i64 0,.int .i64 0,.bool false,.bool false,.bool false,.int .u64 0,.int .i64 0,.string ⟨#[]⟩,.int .i64 0] 90);obtain⟨c0,c1,c2,c3,c4,c5,c6,c7,c8,c9,c10,c11⟩:=z81 hX1;have hR:=z0l w1 [.string ⟨#[]⟩,.int .i64 0,.int .i64 0,.int .i64 0,.int .i64 0,.bool false,.bool false,.bool false,.int .u64 0,.int .i64 0,.string ⟨#[]⟩,.int .i64 0] 90;obtain⟨d0,d1,d2,d3,d4,d5,d6,d7,d8,d9,d10,d11⟩:=z81 hR
 have HBW:=hd_ (z0u (z0r HB.out hb1) (.cells #[.string ⟨#[]⟩,.int .i64 0,.int .i64 0,.int .i64 0,.int .i64 0,.bool false,.bool false,.bool false,.int .u64 0,.int .i64 0,.string ⟨#[]⟩,.int .i64 0] 90));have HX1:=hd_ hX1;have HR1:=hd_ hR;clear hb1 hX1 hR HLV HB HX0;go_upto_region 2 with fail;generalize w1.alloc (.cells #[.string ⟨#[]⟩,.int .i64 0,.int .i64 0,.int .i64 0,.int .i64 0,.bool false,.bool false,.bool false,.int .u64 0,.int .i64 0,.string ⟨#[]⟩,.int .i64 0] 90)=W1 at c0 c1 c2 c3 c4 c5 c6 c7 c8 c9 c10 c11 d0 d1 d2 d3 d4 d5 d6 d7 d8 d9 d10 d11 HBW HX1 HR1 ⊢;generalize w1.heap.size=g2 at d0 d1 d2 d3 d4 d5 d6 d7 d8 d9 d10 d11 HR1 ⊢;go_wp2_with fail;refine (HFT.out _).mono ?_;rintro e w5 ⟨rfl,hb5⟩;have HB5:=hd_ (z0r HBW.out hb5);clear c0 c1 c2 c3 c4 c5 c6 c7 c8 c9 c10 c11 d0 d1 d2 d3 d4 d5 d6 d7 d8 d9 d10 d11;obtain⟨c0,c1,c2,c3,c4,c5,c6,c7,c8,c9,c10,c11⟩:=z81 (HX1.out.below hb5 HX1.out.lt);clear hb5;have q0:z2p 90 (z2o 1 false false)=0:=rfl;rw[q0];go_wp2_with fail;refine (HIL.out _).mono ?_;rintro e w6 ⟨rfl,rfl⟩;have q1:z30 1=true:=rfl;rw[q1];go_wp2_with fail;go_ret;exact⟨rfl,HB5.out⟩
theorem knSize (g bl be bn:Nat)(Ae:Option Addr)(ce:Nat)(w:World)(hk:Chk w g (.slice none 0 0) (.slice none 0 0) 1 ⟨#[]⟩ ⟨#[]⟩ (.slice Ae 2 ce) (.slice none 0 0) bl be bn):Calls prog 140 #[.pointer (some ⟨g,0,none⟩)] w fun e w'=>e=.returned (.int .i64 0)∧zB w w':=by
 obtain⟨k0,k1,k2,k5,k6,-,-,-⟩:=z4g hk;have HK:=hd_ hk;clear hk;go_enter func140,ntmps140;go_upto_region 1 with fail;go_quiet (fail)
 go_wp2_with fail;refine wp_loop_rounds 1 ?_;rw[rounds_succ];go_wp2_with fail;go_ret;exact⟨rfl,below_drewN (Below.refl _ _) _⟩
theorem knRoom (g bl be bn:Nat)(Ae:Option Addr)(ce:Nat)(w:World)(hk:Chk w g (.slice none 0 0) (.slice none 0 0) 1 ⟨#[]⟩ ⟨#[]⟩ (.slice Ae 2 ce) (.slice none 0 0) bl be bn):Calls prog 144 #[.pointer (some ⟨g,0,none⟩)] w fun e w'=>e=.returned (.int .i64 0)∧zB w w':=by
 obtain⟨k0,k1,k2,k5,k6,-,-,-⟩:=z4g hk;clear hk;go_enter func144,ntmps144;go_upto_region 1 with fail;go_quiet (fail)
 go_wp2_with fail;go_ret;exact⟨rfl,below_drewN (Below.refl _ _) _⟩
theorem knRecs (g bl be bn:Nat)(Ae:Option Addr)(ce:Nat)(w:World)(hk:Chk w g (.slice none 0 0) (.slice none 0 0) 1 ⟨#[]⟩ ⟨#[]⟩ (.slice Ae 2 ce) (.slice none 0 0) bl be bn):Calls prog 143 #[.pointer (some ⟨g,0,none⟩)] w fun e w'=>e=.returned (.int .i64 0)∧zB w w':=by
 have hA:zB w (w.alloc (.map #[] 0)):=(Below.refl _ _).alloc (Nat.le_refl _) _;obtain⟨k0,k1,k2,k5,k6,-,-,-⟩:=z4g (Blk.below hk hA (Blk.lt hk));clear hk;have hmm:=@run_makeMap prog;go_enter func143,ntmps143;go_wp2_with fail;refine wp_loop_rounds 1 ?_;rw[rounds_succ];go_wp2_with fail;refine wp_loop_rounds 1 ?_;rw[rounds_succ];go_wp2_with fail;go_ret;exact⟨rfl,hA⟩
def knE (p:ByteArray):Edt:=⟨p,1,⟨1,false,false,false⟩,1,1,0,z2q,0,0⟩
def knA:ByteArray:=⟨#[47,47,100,47,97]⟩
def knB:ByteArray:=⟨#[47,47,100,47,98]⟩
def KnE (w:World)(Ae:Option Addr)(ce:Nat):Prop:=z4d w (.slice Ae 2 ce) [knE knA,knE knB]
def KnAt (w:World)(a:Addr)(p:ByteArray):Prop:=w.cell? a=some (.string p)∧w.cell? ⟨a.block,a.off+1,none⟩=some (.int .i64 1)∧w.cell? ⟨a.block,a.off+2,none⟩=some (.int .i64 1)∧w.cell? ⟨a.block,a.off+3,none⟩=some (.bool false)∧w.cell? ⟨a.block,a.off+4,none⟩=some (.bool false)∧w.cell? ⟨a.block,a.off+5,none⟩=some (.bool false)∧w.cell? ⟨a.block,a.off+6,none⟩=some (.int .u64 1)∧w.cell? ⟨a.block,a.off+7,none⟩=some (.int .i64 1)∧w.cell? ⟨a.block,a.off+8,none⟩=some (.int .i64 0)∧w.cell? ⟨a.block,a.off+9,none⟩=some (.string ⟨#[]⟩)∧w.cell? ⟨a.block,a.off+10,none⟩=some (.int .i64 0)∧w.cell? ⟨a.block,a.off+11,none⟩=some (.int .i64 0)
theorem KnE.at_ {w:World}{A:Option Addr}{c:Nat}(h:KnE w A c)(k:Nat)(hk:k<2):∃ ad p,A=some ad∧ad.block<w.heap.size∧KnAt w (ad.add (k * 12)) p∧(k=0→p=knA)∧(k=1→p=knB):=by
 obtain⟨ad,e,hb,hx⟩:=z4d.at_ (l:=[knE knA,knE knB]) h (k:=k) hk;rcases (by omega:k=0∨k=1) with rfl | rfl
 ·exact⟨ad,knA,e,hb,hx,fun _=>rfl,(fun e=>by cases e)⟩
 ·exact⟨ad,knB,e,hb,hx,(fun e=>by cases e),fun _=>rfl⟩
theorem KnE.below {w w':World}{A:Option Addr}{c:Nat}(h:KnE w A c)(hb:zB w w'):KnE w' A c:=z4d.below h hb
theorem knMoves (g bl be bn:Nat)(Ae:Option Addr)(ce:Nat)(w:World)(hk:Chk w g (.slice none 0 0) (.slice none 0 0) 1 ⟨#[]⟩ ⟨#[]⟩ (.slice Ae 2 ce) (.slice none 0 0) bl be bn)(hE:KnE w Ae ce):Calls prog 142 #[.pointer (some ⟨g,0,none⟩)] w fun e w'=>e=.returned (.int .i64 0)∧zB w w':=by
 have HK:=hd_ (fun X (h:zB w X)=>z4g (Blk.below hk h (Blk.lt hk)));have HE:=hd_ (fun X (h:zB w X)=>KnE.below hE h);clear hk hE;have hA:zB w (w.alloc (.map #[] 0)):=(Below.refl _ _).alloc (Nat.le_refl _) _;obtain⟨-,-,-,k5,-,-,-,-⟩:=HK.out _ hA;have hmm:=@run_makeMap prog;go_enter func142,ntmps142;go_wp2_with fail;clear hmm k5;generalize w.alloc (.map #[] 0)=W1 at hA ⊢;go_loopw [15] (fun i wr=>∃ k:Nat,i=.int .i64 k∧k≤2∧zB w wr) (fun i _=>2 - (intOf i).toNat)
 case atStart=>exact⟨0,rfl,by omega,hA⟩
 case round =>
  obtain⟨k,rfl,hk,hb⟩:=hrel;by_cases hlt:k<2
  ·obtain⟨ad,p,rfl,hab,⟨x0,x1,x2,x3,x4,x5,x6,x7,x8,x9,x10,x11⟩,-,-⟩:=(HE.out wr hb).at_ k hlt;have hb2:=z0u hb (.cells #[.string p,.int .i64 1,.int .i64 1,.bool false,.bool false,.bool false,.int .u64 1,.int .i64 1,.int .i64 0,.string ⟨#[]⟩,.int .i64 0,.int .i64 0] 100);have q:decide ((k:Int)<2)=true:=by simp;omega
   go_wp2_with fail;go_roundw
   case rel=>exact⟨k+1,by go_num,by omega,hb2⟩
   case measure=>simp [intOf];omega
  ·have hk2:k=2:=by omega
   subst hk2;obtain⟨-,-,-,k5,-,-,-,-⟩:=HK.out _ hb;go_wp2_with fail;clear k5;go_loopw [34] (fun i wr=>∃ k:Nat,i=.int .i64 k∧k≤2∧zB w wr) (fun i _=>2 - (intOf i).toNat)
   case atStart=>exact⟨0,rfl,by omega,hb⟩
   case round =>
    obtain⟨k,rfl,hk,hb⟩:=hrel;by_cases hlt:k<2
    ·obtain⟨ad,p,rfl,hab,⟨x0,x1,x2,x3,x4,x5,x6,x7,x8,x9,x10,x11⟩,-,-⟩:=(HE.out wr hb).at_ k hlt;have hb2:=z0u hb (.cells #[.string p,.int .i64 1,.int .i64 1,.bool false,.bool false,.bool false,.int .u64 1,.int .i64 1,.int .i64 0,.string ⟨#[]⟩,.int .i64 0,.int .i64 0] 100);have q:decide ((k:Int)<2)=true:=by simp;omega
     go_wp2_with fail;go_roundw
     case rel=>exact⟨k+1,by go_num,by omega,hb2⟩
     case measure=>simp [intOf];omega
    ·have hk2:k=2:=by omega
     subst hk2;go_wp2_with fail;go_ret;exact⟨rfl,hb⟩
theorem zh2 (a b:ByteArray)(w:World):Calls prog 153 #[.string a,.string b] w fun e w'=>e=.returned (.int .i64 (Lib.compareBytes a.data.toList b.data.toList))∧w=w':=
 (Tryz.strings_Compare a b w).mono fun e w' ⟨h1,h2⟩=>⟨h1,h2.symm⟩
def zh3 (ps qs:List (List UInt8))(k:Nat):Prop:=zgt (ps.drop k) (qs.drop k)=zgt ps qs
theorem zh4 {ps qs:List (List UInt8)}{k:Nat}(h1:k<ps.length)(h2:k<qs.length)(h:zh3 ps qs k):(Lib.compareBytes ps[k] qs[k]=0→zh3 ps qs (k+1))∧(Lib.compareBytes ps[k] qs[k]≠0→zgt ps qs=Lib.compareBytes ps[k] qs[k]):=by
 unfold zh3 at h ⊢
 rw[List.drop_eq_getElem_cons h1,List.drop_eq_getElem_cons h2,zgt] at h;refine⟨fun h0=>?_,fun h0=>?_⟩
 ·rw[if_pos h0] at h;exact h
 ·rw[if_neg h0] at h;exact h.symm
theorem zh5 {ps qs:List (List UInt8)}{k:Nat}(h:zh3 ps qs k)(hk:k≤ps.length)(hk2:k≤qs.length)(he:k=ps.length∨k=qs.length):zgt ps qs=if ps.length<qs.length then -1 else if qs.length<ps.length then 1 else 0:=by
 unfold zh3 at h;rw[← h];rcases he with rfl | rfl
 ·rw[List.drop_length];by_cases hq:ps.length<qs.length
  ·rw[if_pos hq,List.drop_eq_getElem_cons hq];rfl
  ·have:ps.length=qs.length:=by omega
   rw[if_neg hq,if_neg (by omega),this,List.drop_length];rfl
 ·rw[List.drop_length];by_cases hq:qs.length<ps.length
  ·rw[if_neg (by omega),if_pos hq,List.drop_eq_getElem_cons hq];rfl
  ·have:ps.length=qs.length:=by omega
   rw[if_neg (by omega),if_neg hq,← this,List.drop_length];rfl
theorem zh6 (ps qs:List (List UInt8))(g1 g2:Nat)(w:World)(hp:z8r w g1 0 ps)(hq:z8r w g2 0 qs)(h1:ps.length≤2000001)(h2:qs.length≤2000001):
  Calls prog 154 #[.slice (some ⟨g1,0,none⟩) ps.length ps.length,.slice (some ⟨g2,0,none⟩) qs.length qs.length] w fun e w'=>e=.returned (.int .i64 (zgt ps qs))∧zB w w':=by
 have HP:=hd_ hp;have HQ:=hd_ hq;have HC:=hd_ (fun a b X=>zh2 a b X);clear hp hq;go_enter func154,ntmps154;go_wp2_with fail;go_loopw [5] (fun s wr=>∃ k:Nat,s=.int .i64 k∧k≤ps.length∧k≤qs.length∧Hid (zh3 ps qs k∧zB w wr)) (fun s _=>ps.length - (intOf s).toNat)
 case atStart=>exact⟨0,rfl,Nat.zero_le _,Nat.zero_le _,rfl,Below.refl _ _⟩
 case round =>
  obtain⟨k,rfl,hk,hk2,HI⟩:=hrel;by_cases hlt:k<ps.length
  ·by_cases hlt2:k<qs.length
   ·have hx:wr.cell? ⟨g1,k,none⟩=some (.string (baL ps[k])):=by
     have h:=HP.out k hlt;rw[Nat.zero_add] at h;exact z04 h HI.out.2 (z03 h)
    have hy:wr.cell? ⟨g2,k,none⟩=some (.string (baL qs[k])):=by
     have h:=HQ.out k hlt2;rw[Nat.zero_add] at h;exact z04 h HI.out.2 (z03 h)
    have HN:=hd_ (zh4 hlt hlt2 HI.out.1);have z1:(k:Int)<(ps.length:Int):=by omega
    have z2:(k:Int)<(qs.length:Int):=by omega
    have d1:decide (k<ps.length)=true:=by simp;omega
    have d2:decide (k<qs.length)=true:=by simp;omega
    generalize ps[k]=x at hx HN;generalize qs[k]=y at hy HN;go_wp2_with fail;go_quiet ((go_at_call 153;exact z3p (zh2 _ _ _)))
    clear hx hy d1 d2;have HB:Hid (zB w (wr.drewN nq)):=hd_ (z0p HI.out.2 nq);generalize wr.drewN nq=wz at HB ⊢;rw[z6y,z6y];by_cases h0:Lib.compareBytes x y=0
    ·have HA:=hd_ (HN.out.1 h0);rw[h0];clear h0 HN;go_wp2_with fail;go_roundw
     case rel=>exact⟨k+1,by go_num,by omega,by omega,HA.out,HB.out⟩
     case measure=>simp [intOf];omega
    ·have HA:=hd_ (HN.out.2 h0);have q:(Lib.compareBytes x y != 0)=true:=by simpa using h0
     generalize Lib.compareBytes x y=c at HA q;clear h0 HN;go_wp2_with fail;go_ret;exact⟨by rw[HA.out];rfl,HB.out⟩
   ·have d1:decide (k<ps.length)=true:=by simp;omega
    have d2:decide (k<qs.length)=false:=by simp;omega
    have HA:=hd_ (zh5 HI.out.1 hk hk2 (.inr (by omega)))
    have d3:decide (ps.length<qs.length)=false:=by simp;omega
    have d4:decide (qs.length<ps.length)=true:=by simp;omega
    have HV:Hid ((if ps.length<qs.length then (-1:Int) else if qs.length<ps.length then 1 else 0)=1):=hd_ (by rw[if_neg (by omega),if_pos (by omega)])
    go_wp2_with fail;go_ret;exact⟨by rw[HA.out,HV.out];rfl,HI.out.2⟩
  ·have d1:decide (k<ps.length)=false:=by simp;omega
   have HA:=hd_ (zh5 HI.out.1 hk hk2 (.inl (by omega)))
   by_cases hq:ps.length<qs.length
   ·have d3:decide (ps.length<qs.length)=true:=by simp;omega
    have HV:Hid ((if ps.length<qs.length then (-1:Int) else if qs.length<ps.length then 1 else 0)=-1):=hd_ (by rw[if_pos (by omega)])
    go_wp2_with fail;go_ret;exact⟨by rw[HA.out,HV.out];rfl,HI.out.2⟩
   ·have d3:decide (ps.length<qs.length)=false:=by simp;omega
    have d4:decide (qs.length<ps.length)=false:=by simp;omega
    have HV:Hid ((if ps.length<qs.length then (-1:Int) else if qs.length<ps.length then 1 else 0)=0):=hd_ (by rw[if_neg (by omega),if_neg (by omega)])
    go_wp2_with fail;go_ret;exact⟨by rw[HA.out,HV.out];rfl,HI.out.2⟩
def OrdPost (w:World)(a b:ByteArray)(e:Ending)(w':World):Prop:=∃ n:Int,e=.returned (.int .i64 n)∧zB w w'∧(z2x a=true→z2x b=true→n=z2z a b)
theorem zh7 {a:ByteArray}(h:z2v a.data.toList 2=none):z2x a=false:=by unfold z2x z2w;rw[h];rfl
def zh8 (a b:ByteArray):Int:=match z2v a.data.toList 2,z2v b.data.toList 2 with
 | none,none=>Lib.compareBytes a.data.toList b.data.toList
 | none,some _=>-1
 | some _,none=>1
 | some ps,some qs=>zgt ps qs
theorem zh9 {a b:ByteArray}(ha:z2x a=true)(hb:z2x b=true):zh8 a b=z2z a b:=by
 unfold zh8;cases hda:z2v a.data.toList 2 with
 | none=>rw[zh7 hda] at ha;cases ha
 | some ps =>
  cases hdb:z2v b.data.toList 2 with
  | none=>rw[zh7 hdb] at hb;cases hb
  | some qs=>exact (zh1 hda hdb).symm
theorem zha (a b:ByteArray)(w:World)(he:Env w)(ha:a.size≤2000000)(hb:b.size≤2000000):
  Calls prog 93 #[.string a,.string b] w fun e w'=>e=.returned (.int .i64 (zh8 a b))∧zB w w':=by
 have HE:=hd_ he;clear he;have HC:=hd_ (fun a b X=>zh2 a b X);cases hda:z2v a.data.toList 2 with
 | none =>
  have HVA:=hd_ (zh7 hda);have HA:=hd_ (z99 a w HE.out ha hda);cases hdb:z2v b.data.toList 2 with
  | none =>
   have HB:=hd_ (fun X (hX:zB w X)=>z99 b X (HE.out.below hX) hb hdb);have HF:Hid (zh8 a b=Lib.compareBytes a.data.toList b.data.toList):=hd_ (by unfold zh8;rw[hda,hdb])
   clear hda hdb;go_enter func93,ntmps93;go_wp2_with fail;refine HA.out.mono ?_;rintro e w1 ⟨rfl,hb1⟩;have HB1:=hd_ (HB.out w1 hb1);have H1:=hd_ hb1;clear hb1;go_wp2_with fail;refine HB1.out.mono ?_;rintro e w2 ⟨rfl,hb2⟩;have H2:=hd_ hb2;clear hb2;go_wp2_with fail;refine (HC.out a b w2).mono ?_;rintro e w3 ⟨rfl,rfl⟩;go_wp2_with fail;go_ret;exact⟨z3a HF.out.symm,z0r H1.out H2.out⟩
  | some qs =>
   have HB:=hd_ (fun X (hX:zB w X)=>z98 b qs X (HE.out.below hX) hb hdb);have HF:Hid (zh8 a b=-1):=hd_ (by unfold zh8;rw[hda,hdb])
   clear hda hdb;go_enter func93,ntmps93;go_wp2_with fail;refine HA.out.mono ?_;rintro e w1 ⟨rfl,hb1⟩;have HB1:=hd_ (HB.out w1 hb1);have H1:=hd_ hb1;clear hb1;go_wp2_with fail;refine HB1.out.mono ?_;rintro e w2 ⟨rfl,rfl⟩;have H2:Hid (zB w1 (w1.alloc (.cells (z6x qs).toArray 9))):=hd_ ((Below.refl _ _).alloc (Nat.le_refl _) _);generalize w1.alloc (.cells (z6x qs).toArray 9)=w2 at H2 ⊢;go_wp2_with fail;go_ret;exact⟨z3a HF.out.symm,z0r H1.out H2.out⟩
 | some ps =>
  have HA:=hd_ (z98 a ps w HE.out ha hda);have hA1:zB w (w.alloc (.cells (z6x ps).toArray 9)):=(Below.refl _ _).alloc (Nat.le_refl _) _;have hS1:=z8r.of_blk (z0l w (z6x ps) 9);cases hdb:z2v b.data.toList 2 with
  | none =>
   have HVB:=hd_ (zh7 hdb);have HB:=hd_ (fun X (hX:zB w X)=>z99 b X (HE.out.below hX) hb hdb);have HF:Hid (zh8 a b=1):=hd_ (by unfold zh8;rw[hda,hdb])
   clear hda hdb;go_enter func93,ntmps93;go_wp2_with fail;refine HA.out.mono ?_;rintro e w1 ⟨rfl,rfl⟩;have HB1:=hd_ (HB.out _ hA1);have H1:=hd_ hA1;clear hA1 hS1;generalize w.alloc (.cells (z6x ps).toArray 9)=w1 at HB1 H1 ⊢;go_wp2_with fail;refine HB1.out.mono ?_;rintro e w2 ⟨rfl,hb2⟩;have H2:=hd_ hb2;clear hb2;go_wp2_with fail;go_ret;exact⟨z3a HF.out.symm,z0r H1.out H2.out⟩
  | some qs =>
   have HB:=hd_ (fun X (hX:zB w X)=>z98 b qs X (HE.out.below hX) hb hdb);have HCM:=hd_ (zh1 hda hdb);have hlp:ps.length≤2000001∧qs.length≤2000001:=by
    have k1:ps=z1f (a.data.toList.drop 2):=by unfold z2v at hda;split at hda;(injection hda with h;exact h.symm);cases hda
    have k2:qs=z1f (b.data.toList.drop 2):=by unfold z2v at hdb;split at hdb;(injection hdb with h;exact h.symm);cases hdb
    rw[k1,k2];exact⟨(z94 a 2 ha).1,(z94 b 2 hb).1⟩
   have HLP:=hd_ hlp;have HF:Hid (zh8 a b=zgt ps qs):=hd_ (by unfold zh8;rw[hda,hdb])
   clear hda hdb hlp;go_enter func93,ntmps93;go_wp2_with fail;refine HA.out.mono ?_;rintro e w1 ⟨rfl,rfl⟩;have HB1:=hd_ (HB.out _ hA1);have H1:=hd_ hA1;have HS1:=hd_ hS1;clear hA1 hS1;generalize w.alloc (.cells (z6x ps).toArray 9)=w1 at HB1 H1 HS1 ⊢;go_wp2_with fail;refine HB1.out.mono ?_;rintro e w2 ⟨rfl,rfl⟩;have hA2:zB w1 (w1.alloc (.cells (z6x qs).toArray 9)):=(Below.refl _ _).alloc (Nat.le_refl _) _;have HS2:=hd_ (z8r.of_blk (z0l w1 (z6x qs) 9));have HS3:=hd_ (HS1.out.below hA2);have H2:=hd_ hA2;clear hA2;generalize w1.alloc (.cells (z6x qs).toArray 9)=w2 at HS2 HS3 H2 ⊢;have HCP:=hd_ (zh6 ps qs w.heap.size w1.heap.size w2 HS3.out HS2.out HLP.out.1 HLP.out.2);go_wp2_with fail;refine HCP.out.mono ?_;rintro e w3 ⟨rfl,hb3⟩;have H3:=hd_ hb3;clear hb3;go_wp2_with fail;go_ret;exact⟨z3a HF.out.symm,z0r H1.out (z0r H2.out H3.out)⟩
theorem zhb (a b:ByteArray)(w:World)(he:Env w)(ha:a.size≤2000000)(hb:b.size≤2000000):
  Calls prog 93 #[.string a,.string b] w (OrdPost w a b):=
 (zha a b w he ha hb).mono fun e w' ⟨h1,h2⟩=>⟨_,h1,h2,fun h3 h4=>zh9 h3 h4⟩
theorem zhc (a b:Ty)(W:World):(binOp .neq 85 (.agg #[.int .i64 a.base,.bool a.k,.bool a.l,.bool a.x]) (.agg #[.int .i64 b.base,.bool b.k,.bool b.l,.bool b.x])).run prog W=.ok (.bool (!decide (a=b))) W:=by
 obtain⟨a0,a1,a2,a3⟩:=a;obtain⟨b0,b1,b2,b3⟩:=b;rw[run_neq_struct,run_equalIn_agg W 9999 85 _ _ (by kernel_rfl) (by kernel_rfl)]
 simp [go_sem,Op.eqFields]
 by_cases h1:a0=b0 <;> by_cases h2:a1=b1 <;> by_cases h3:a2=b2 <;> by_cases h4:a3=b3 <;> simp [h1,h2,h3,h4]
theorem zhd (a b c d:Int)(W:World):(binOp .neq 88 (.agg #[.int .u64 a,.int .i64 b]) (.agg #[.int .u64 c,.int .i64 d])).run prog W=.ok (.bool (!(decide (a=c) && decide (b=d)))) W:=by
 rw[run_neq_struct,run_equalIn_agg W 9999 88 _ _ (by kernel_rfl) (by kernel_rfl)]
 simp [go_sem,Op.eqFields]
 by_cases h1:a=c <;> by_cases h2:b=d <;> simp [h1,h2]
theorem zhe (f:ByteArray→Option Rev)(x:Edt)(g:Nat)(dv dr ev rv:Value)(n:Int)(cl tx:ByteArray)(bl be bn:Nat)(w:World)(hk:Chk w g dv dr n cl tx ev rv bl be bn)(hL:z7t w bl f)
  (h1:0≤(z33 f x.path).num) (h2:(z33 f x.path).num≤1000000):
  Calls prog 85 #[.pointer (some ⟨g,0,none⟩),.agg #[.string x.path,.int .i64 x.act,.int .i64 x.ty.base,.bool x.ty.k,.bool x.ty.l,.bool x.ty.x,.int .u64 x.sum,.int .i64 x.size,.int .i64 x.base,.string x.frm,.int .i64 x.fnum,.int .i64 x.fence]] w
   fun e w'=>e=.returned (.agg #[.string (z35 f n x).path,.int .i64 (z35 f n x).num,.int .i64 (z35 f n x).chg,.int .i64 (z35 f n x).act,.int .i64 (z35 f n x).ty.base,.bool (z35 f n x).ty.k,.bool (z35 f n x).ty.l,.bool (z35 f n x).ty.x,.int .u64 (z35 f n x).sum,.int .i64 (z35 f n x).size,.string (z35 f n x).frm,.int .i64 (z35 f n x).fnum])∧zB w w':=by
 obtain⟨W,hW⟩:∃ W,W=(w.alloc (.cells #[.string x.path,.int .i64 x.act,.int .i64 x.ty.base,.bool x.ty.k,.bool x.ty.l,.bool x.ty.x,.int .u64 x.sum,.int .i64 x.size,.int .i64 x.base,.string x.frm,.int .i64 x.fnum,.int .i64 x.fence] 100)).alloc (.cells #[.string ⟨#[]⟩,.int .i64 0,.int .i64 0,.int .i64 0,.int .i64 0,.bool false,.bool false,.bool false,.int .u64 0,.int .i64 0,.string ⟨#[]⟩,.int .i64 0] 90):=⟨_,rfl⟩;have hbW:zB w W:=by rw[hW];exact ((Below.refl _ _).alloc (Nat.le_refl _) _).alloc (by simp) _
 have hX:Blk W w.heap.size 100 [.string x.path,.int .i64 x.act,.int .i64 x.ty.base,.bool x.ty.k,.bool x.ty.l,.bool x.ty.x,.int .u64 x.sum,.int .i64 x.size,.int .i64 x.base,.string x.frm,.int .i64 x.fnum,.int .i64 x.fence]:=by rw[hW];exact (z0l w _ _).alloc _
 have hZ:Blk W (w.heap.size+1) 90 [.string ⟨#[]⟩,.int .i64 0,.int .i64 0,.int .i64 0,.int .i64 0,.bool false,.bool false,.bool false,.int .u64 0,.int .i64 0,.string ⟨#[]⟩,.int .i64 0]:=by
  rw[hW];have:=z0l (w.alloc (.cells #[.string x.path,.int .i64 x.act,.int .i64 x.ty.base,.bool x.ty.k,.bool x.ty.l,.bool x.ty.x,.int .u64 x.sum,.int .i64 x.size,.int .i64 x.base,.string x.frm,.int .i64 x.fnum,.int .i64 x.fence] 100)) [.string ⟨#[]⟩,.int .i64 0,.int .i64 0,.int .i64 0,.int .i64 0,.bool false,.bool false,.bool false,.int .u64 0,.int .i64 0,.string ⟨#[]⟩,.int .i64 0] 90;simpa using this
 have hK:Chk W g dv dr n cl tx ev rv bl be bn:=Blk.below hk hbW (Blk.lt hk);have hlk:=z7t.look (w:=W.drew) (z2k.below hL hbW.drew) x.path;obtain⟨-,-,k2,-,-,k7,-,-⟩:=z4g hK;have HW:=hd_ hW;have HM:Hid (z35 f n x=⟨x.path,(z33 f x.path).num+1,n,x.act,x.ty,x.sum,x.size,x.frm,x.fnum⟩):=hd_ rfl;clear hW hK;generalize z33 f x.path=r at hlk HM h1 h2;generalize z35 f n x=m at HM ⊢;obtain⟨c0,c1,c2,c3,c4,c5,c6,c7,c8,c9,c10,c11⟩:=z81 hX;go_enter func85,ntmps85;go_wp2_with fail;rw[← HW.out];have hwr:IntKind.i64.wrap (r.num+1)=r.num+1:=IntWalk.i64_in _ (by omega)
 have hfl:∀ w,(Instr.field 90 (.agg #[.string r.path,.int .i64 r.num,.int .i64 r.chg,.int .i64 r.act,.int .i64 r.ty.base,.bool r.ty.k,.bool r.ty.l,.bool r.ty.x,.int .u64 r.sum,.int .i64 r.size,.string r.frm,.int .i64 r.fnum]) 1).run prog w=.ok (.int .i64 r.num) w:=fun w=>by kernel_rfl
 go_still_tail 27,(by kernel_rfl)
 change wpList _ _ _ _ _ W.drew;clear hwr hfl hlk c0 c1 c2 c3 c4 c5 c6 c7 c8 c9 c10 c11 k2 k7;have hB2:zB w W.drew:=hbW.drew;have hZ2:Blk W.drew (w.heap.size+1) 90 [.string ⟨#[]⟩,.int .i64 0,.int .i64 0,.int .i64 0,.int .i64 0,.bool false,.bool false,.bool false,.int .u64 0,.int .i64 0,.string ⟨#[]⟩,.int .i64 0]:=hZ;generalize W.drew=W2 at hB2 hZ2 ⊢;obtain⟨z0,z1,z2,z3,z4,z5,z6,z7,z8,z9,z10,z11⟩:=z81 hZ2;obtain⟨y0,y1,y2,y3,y4,y5,y6,y7,y8,y9,y10,y11⟩:=zdi hZ2;go_wp2_with fail;have hZ3:=zdj hZ2 ⟨x.path,r.num+1,n,x.act,x.ty,x.sum,x.size,x.frm,x.fnum⟩;have hB3:=zdk hB2 (show w.heap.size≤w.heap.size+1 by omega) ⟨x.path,r.num+1,n,x.act,x.ty,x.sum,x.size,x.frm,x.fnum⟩
 rw[← HM.out] at hZ3 hB3;have e:((((((((((((W2.setCell ⟨w.heap.size+1,0,none⟩ (.string m.path)).setCell ⟨w.heap.size+1,1,none⟩ (.int .i64 m.num)).setCell ⟨w.heap.size+1,2,none⟩ (.int .i64 m.chg)).setCell ⟨w.heap.size+1,3,none⟩ (.int .i64 m.act)).setCell ⟨w.heap.size+1,4,none⟩ (.int .i64 m.ty.base)).setCell ⟨w.heap.size+1,5,none⟩ (.bool m.ty.k)).setCell ⟨w.heap.size+1,6,none⟩ (.bool m.ty.l)).setCell ⟨w.heap.size+1,7,none⟩ (.bool m.ty.x)).setCell ⟨w.heap.size+1,8,none⟩ (.int .u64 m.sum)).setCell ⟨w.heap.size+1,9,none⟩ (.int .i64 m.size)).setCell ⟨w.heap.size+1,10,none⟩ (.string m.frm)).setCell ⟨w.heap.size+1,11,none⟩ (.int .i64 m.fnum))=((((((((((((W2.setCell ⟨w.heap.size+1,0,none⟩ (.string ((⟨x.path,r.num+1,n,x.act,x.ty,x.sum,x.size,x.frm,x.fnum⟩:Rev)).path)).setCell ⟨w.heap.size+1,1,none⟩ (.int .i64 ((⟨x.path,r.num+1,n,x.act,x.ty,x.sum,x.size,x.frm,x.fnum⟩:Rev)).num)).setCell ⟨w.heap.size+1,2,none⟩ (.int .i64 ((⟨x.path,r.num+1,n,x.act,x.ty,x.sum,x.size,x.frm,x.fnum⟩:Rev)).chg)).setCell ⟨w.heap.size+1,3,none⟩ (.int .i64 ((⟨x.path,r.num+1,n,x.act,x.ty,x.sum,x.size,x.frm,x.fnum⟩:Rev)).act)).setCell ⟨w.heap.size+1,4,none⟩ (.int .i64 ((⟨x.path,r.num+1,n,x.act,x.ty,x.sum,x.size,x.frm,x.fnum⟩:Rev)).ty.base)).setCell ⟨w.heap.size+1,5,none⟩ (.bool ((⟨x.path,r.num+1,n,x.act,x.ty,x.sum,x.size,x.frm,x.fnum⟩:Rev)).ty.k)).setCell ⟨w.heap.size+1,6,none⟩ (.bool ((⟨x.path,r.num+1,n,x.act,x.ty,x.sum,x.size,x.frm,x.fnum⟩:Rev)).ty.l)).setCell ⟨w.heap.size+1,7,none⟩ (.bool ((⟨x.path,r.num+1,n,x.act,x.ty,x.sum,x.size,x.frm,x.fnum⟩:Rev)).ty.x)).setCell ⟨w.heap.size+1,8,none⟩ (.int .u64 ((⟨x.path,r.num+1,n,x.act,x.ty,x.sum,x.size,x.frm,x.fnum⟩:Rev)).sum)).setCell ⟨w.heap.size+1,9,none⟩ (.int .i64 ((⟨x.path,r.num+1,n,x.act,x.ty,x.sum,x.size,x.frm,x.fnum⟩:Rev)).size)).setCell ⟨w.heap.size+1,10,none⟩ (.string ((⟨x.path,r.num+1,n,x.act,x.ty,x.sum,x.size,x.frm,x.fnum⟩:Rev)).frm)).setCell ⟨w.heap.size+1,11,none⟩ (.int .i64 ((⟨x.path,r.num+1,n,x.act,x.ty,x.sum,x.size,x.frm,x.fnum⟩:Rev)).fnum)):=by rw[HM.out]
 dsimp only at e
 rw[← e];generalize ((((((((((((W2.setCell ⟨w.heap.size+1,0,none⟩ (.string m.path)).setCell ⟨w.heap.size+1,1,none⟩ (.int .i64 m.num)).setCell ⟨w.heap.size+1,2,none⟩ (.int .i64 m.chg)).setCell ⟨w.heap.size+1,3,none⟩ (.int .i64 m.act)).setCell ⟨w.heap.size+1,4,none⟩ (.int .i64 m.ty.base)).setCell ⟨w.heap.size+1,5,none⟩ (.bool m.ty.k)).setCell ⟨w.heap.size+1,6,none⟩ (.bool m.ty.l)).setCell ⟨w.heap.size+1,7,none⟩ (.bool m.ty.x)).setCell ⟨w.heap.size+1,8,none⟩ (.int .u64 m.sum)).setCell ⟨w.heap.size+1,9,none⟩ (.int .i64 m.size)).setCell ⟨w.heap.size+1,10,none⟩ (.string m.frm)).setCell ⟨w.heap.size+1,11,none⟩ (.int .i64 m.fnum))=W3 at hZ3 hB3 ⊢;obtain⟨e0,e1,e2,e3,e4,e5,e6,e7,e8,e9,e10,e11⟩:=z81 hZ3;refine bodyPost_ret (v:=.agg #[.string m.path,.int .i64 m.num,.int .i64 m.chg,.int .i64 m.act,.int .i64 m.ty.base,.bool m.ty.k,.bool m.ty.l,.bool m.ty.x,.int .u64 m.sum,.int .i64 m.size,.string m.frm,.int .i64 m.fnum]) (by simp [results,results85,go_sem,e0,e1,e2,e3,e4,e5,e6,e7,e8,e9,e10,e11]) rfl ⟨rfl,hB3⟩
