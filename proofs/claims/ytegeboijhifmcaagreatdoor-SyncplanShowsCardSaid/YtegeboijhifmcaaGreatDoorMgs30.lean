/- A part of the proof. -/
import Derived.Test.YtegeboijhifmcaaGreatDoorMgs29
import Derived.Test.YtegeboijhifmcaaGreatDoorMgs27
set_option linter.unusedVariables false
set_option linter.unusedSimpArgs false
set_option maxHeartbeats 4000000
set_option maxRecDepth 100000
namespace Go.Proofs.YtegeboijhifmcaaGreatDoor
open Go.Proofs.Tryz
open Go.RowKit
def zea (q:ByteArray)(p:Rev→Bool)(o:Option Rev)(r:Rev):Option Rev:=
 if r.path=q∧p r=true then (match o with
  | none=>some r
  | some b=>if b.num<r.num then some r else some b) else o
theorem zeb (revs:List Rev)(q:ByteArray)(p:Rev→Bool):z30 revs q p=revs.foldl (zea q p) none:=rfl
def zec (o:Option Rev):Rev:=o.getD z2m
theorem far12 {w:World}{g g':Nat}{e:TypeId}{cs:List Value}(h:Blk w g' e cs)(hg:g≠g')(r:Rev):Blk ((((((((((((w.setCell ⟨g,0,none⟩ (.string r.path)).setCell ⟨g,1,none⟩ (.int .i64 r.num)).setCell ⟨g,2,none⟩ (.int .i64 r.chg)).setCell ⟨g,3,none⟩ (.int .i64 r.act)).setCell ⟨g,4,none⟩ (.int .i64 r.ty.base)).setCell ⟨g,5,none⟩ (.bool r.ty.k)).setCell ⟨g,6,none⟩ (.bool r.ty.l)).setCell ⟨g,7,none⟩ (.bool r.ty.x)).setCell ⟨g,8,none⟩ (.int .u64 r.sum)).setCell ⟨g,9,none⟩ (.int .i64 r.size)).setCell ⟨g,10,none⟩ (.string r.frm)).setCell ⟨g,11,none⟩ (.int .i64 r.fnum)) g' e cs:=
 ((((((((((((h.far (p:=⟨g,0,none⟩) hg _).far (p:=⟨g,1,none⟩) hg _).far (p:=⟨g,2,none⟩) hg _).far (p:=⟨g,3,none⟩) hg _).far (p:=⟨g,4,none⟩) hg _).far (p:=⟨g,5,none⟩) hg _).far (p:=⟨g,6,none⟩) hg _).far (p:=⟨g,7,none⟩) hg _).far (p:=⟨g,8,none⟩) hg _).far (p:=⟨g,9,none⟩) hg _).far (p:=⟨g,10,none⟩) hg _).far (p:=⟨g,11,none⟩) hg _)
def zgp (revs:List Rev)(p:ByteArray):List Rev:=revs.filter fun r=>decide (r.path=p)
theorem zgq {revs:List Rev}{p:ByteArray}{v:Rev}:v∈zgp revs p↔v∈revs∧v.path=p:=by
 unfold zgp;simp
theorem zgr (a b:List Rev)(p:ByteArray):zgp (a++b) p=zgp a p++zgp b p:=by unfold zgp;rw[List.filter_append]
def zgs (D:List Rev)(p:ByteArray):Option Rev:=(zgp D p).getLast?
theorem zgt:z0e prog 23 66 12 96:=z0f underlying23 (z:=z2m.val) (by kernel_rfl) rfl (by decide)
theorem zgu:z0e prog 24 145 6 64:=z0f underlying24 (z:=.agg #[.string ⟨#[]⟩,.int .i64 0,.int .i64 0,.string ⟨#[]⟩,.int .i64 0,.int .i64 0]) (by kernel_rfl) rfl (by decide)
theorem zgv (revs:List Rev)(p:ByteArray)(k:Nat)(h:k<revs.length):zgp (revs.take (k+1)) p=zgp (revs.take k) p++(if revs[k].path=p then [revs[k]] else []):=by
 rw[List.take_succ_eq_append_getElem h,zgr];congr 1
 unfold zgp;rw[List.filter_cons];by_cases e:revs[k].path=p
 ·simp [e]
 ·simp [e]
theorem zgw (revs:List Rev)(p:ByteArray):(zgp revs p).length≤revs.length:=List.length_filter_le ..
theorem zgx (x:Rev):∀ v∈x.cells,v.oneCell'=true:=by
 intro v hv;simp only[Rev.cells,List.mem_cons,List.not_mem_nil,or_false] at hv
 rcases hv with rfl | rfl | rfl | rfl | rfl | rfl | rfl | rfl | rfl | rfl | rfl | rfl <;> rfl
def zgy (w:World)(revs:List Rev)(p:ByteArray)(e:Ending)(w':World):Prop:=∃ A c,e=.returned (.slice A (zgp revs p).length c)∧Below w.heap.size w w'∧z45 w' (.slice A (zgp revs p).length c) (zgp revs p)
theorem zgz (revs:List Rev)(p:ByteArray)(dv dr:Value)(w:World)(hR:z45 w dv revs)(hl:revs.length≤1000000):
  Calls prog 130 #[.agg #[dv,dr],.string p] w (zgy w revs p):=by
 obtain⟨Ar,cr,rfl,hcr,hmr,-⟩:=id hR;have HR:=hd_ hR;clear hR;unfold maxLen at hmr;go_enter func130,ntmps130;have hB:=z0l w [.slice Ar revs.length cr,dr] 26;have hA:Below w.heap.size w (w.alloc (.cells #[.slice Ar revs.length cr,dr] 26)):=(Below.refl _ _).alloc (Nat.le_refl _) _;go_upto_region 2 with fail;generalize w.alloc (.cells #[.slice Ar revs.length cr,dr] 26)=W1 at hB hA ⊢;obtain⟨d0,-,-,-⟩:=box2 hB;have HA:=hd_ hA;clear hA hB;go_wp2_with fail;clear d0;go_loopw [5,11] (fun u s wr=>∃(k n:Nat) (A:Option Addr) (c:Nat),s=.int .i64 k∧u=.slice A n c∧k≤revs.length∧n≤k∧Hid (n=(zgp (revs.take k) p).length∧Below W1.heap.size W1 wr∧wr.ownsRow W1.heap.size 66 12 (.slice A n c) n ((zgp (revs.take k) p).flatMap Rev.cells))) (fun _ s _=>revs.length - (intOf s).toNat)
 case atStart=>exact⟨0,0,none,0,rfl,rfl,Nat.zero_le _,Nat.le_refl _,rfl,Below.refl _ _,World.ownsRow_nil _ _ _ _⟩
 case round =>
  obtain⟨k,n,A,c,rfl,rfl,hk,hnk,HI⟩:=hrel;by_cases hlt:k<revs.length
  ·obtain⟨ad,rfl,hab,hld⟩:=z45.at_ (HR.out.below (z0r HA.out HI.out.2.1)) hlt;have HT:=hd_ (zgv revs p k hlt);generalize revs[k]=r at hld HT;obtain⟨x0,x1,x2,x3,x4,x5,x6,x7,x8,x9,x10,x11⟩:=hld;have hX:=z0l wr [.string r.path,.int .i64 r.num,.int .i64 r.chg,.int .i64 r.act,.int .i64 r.ty.base,.bool r.ty.k,.bool r.ty.l,.bool r.ty.x,.int .u64 r.sum,.int .i64 r.size,.string r.frm,.int .i64 r.fnum] 66;have hA1:Below wr.heap.size wr (wr.alloc (.cells #[.string r.path,.int .i64 r.num,.int .i64 r.chg,.int .i64 r.act,.int .i64 r.ty.base,.bool r.ty.k,.bool r.ty.l,.bool r.ty.x,.int .u64 r.sum,.int .i64 r.size,.string r.frm,.int .i64 r.fnum] 66)):=(Below.refl _ _).alloc (Nat.le_refl _) _;go_upto_region 5 with fail;clear x0 x1 x2 x3 x4 x5 x6 x7 x8 x9 x10 x11;generalize wr.alloc (.cells #[.string r.path,.int .i64 r.num,.int .i64 r.chg,.int .i64 r.act,.int .i64 r.ty.base,.bool r.ty.k,.bool r.ty.l,.bool r.ty.x,.int .u64 r.sum,.int .i64 r.size,.string r.frm,.int .i64 r.fnum] 66)=V1 at hX hA1 ⊢;obtain⟨y0,y1,y2,y3,y4,y5,y6,y7,y8,y9,y10,y11⟩:=z7z hX;by_cases hp:r.path=p
   ·have q:=ze7 r.path p;rw[decide_eq_true hp] at q;rw[if_pos hp] at HT;have HN:Hid (n=(zgp (revs.take k) p).length∧Below W1.heap.size W1 V1∧V1.ownsRow W1.heap.size 66 12 (.slice A n c) n ((zgp (revs.take k) p).flatMap Rev.cells)):=hd_ ⟨HI.out.1,z0r HI.out.2.1 hA1,z0n HI.out.2.2 hA1⟩;clear hX hA1 hp;go_wp2_with (at_builtin;refine z0k rfl rfl zgt ((z0n HN.out.2.2 ((Below.refl _ _).alloc (Nat.le_refl _) _))) rfl (z0i V1 [.string r.path,.int .i64 r.num,.int .i64 r.chg,.int .i64 r.act,.int .i64 r.ty.base,.bool r.ty.k,.bool r.ty.l,.bool r.ty.x,.int .u64 r.sum,.int .i64 r.size,.string r.frm,.int .i64 r.fnum] _ 12 1 rfl (by decide) _ rfl) rfl (HN.out.2.1.alloc HN.out.2.1.size _) (HN.out.2.1.alloc HN.out.2.1.size _).size (zgx r) (by omega) (by unfold maxLen;omega) ?_;intro A' c' w2 hown2 hbl2)
    have HO2:=hd_ hown2;have HB2:=hd_ hbl2;clear y0 y1 y2 y3 y4 y5 y6 y7 y8 y9 y10 y11 hown2 hbl2;go_wp2_with fail;go_roundw
    case rel =>
     refine⟨k+1,n+1,A',c',by go_num,rfl,by omega,by omega,?_,HB2.out,?_⟩
     ·rw[HT.out,List.length_append,List.length_singleton,← HN.out.1]
     ·rw[HT.out,List.flatMap_append,List.flatMap_cons,List.flatMap_nil,List.append_nil];exact HO2.out
    case measure=>simp [intOf];omega
   ·have q:=ze7 r.path p;rw[decide_eq_false hp] at q;rw[if_neg hp,List.append_nil] at HT;have HN:Hid (n=(zgp (revs.take (k+1)) p).length∧Below W1.heap.size W1 V1∧V1.ownsRow W1.heap.size 66 12 (.slice A n c) n ((zgp (revs.take (k+1)) p).flatMap Rev.cells)):=hd_ (by rw[HT.out];exact⟨HI.out.1,z0r HI.out.2.1 hA1,z0n HI.out.2.2 hA1⟩)
    clear hX hA1 hp HT;go_wp2_with fail;go_roundw
    case rel=>exact⟨k+1,n,A,c,by go_num,rfl,by omega,by omega,HN.out⟩
    case measure=>simp [intOf];omega
  ·have hke:k=revs.length:=by omega
   have HF:Hid (n=(zgp revs p).length∧Below W1.heap.size W1 wr∧wr.ownsRow W1.heap.size 66 12 (.slice A n c) n ((zgp revs p).flatMap Rev.cells)):=hd_ (by
    have:=HI.out;rwa [hke,List.take_length] at this)
   clear HI hke;go_wp2_with fail;go_ret;obtain⟨hn,h1,h2⟩:=HF.out;subst hn;exact⟨A,c,rfl,z0r HA.out h1,Row.of_own h2⟩
def zh0 (w:World)(o:Option Rev)(e:Ending)(w':World):Prop:=e=.returned (.tuple #[.agg #[.string (zec o).path,.int .i64 (zec o).num,.int .i64 (zec o).chg,.int .i64 (zec o).act,.int .i64 (zec o).ty.base,.bool (zec o).ty.k,.bool (zec o).ty.l,.bool (zec o).ty.x,.int .u64 (zec o).sum,.int .i64 (zec o).size,.string (zec o).frm,.int .i64 (zec o).fnum],.bool o.isSome])∧Below w.heap.size w w'
theorem zh1 (revs:List Rev)(p:ByteArray)(dv dr:Value)(w:World)(hR:z45 w dv revs)(hl:revs.length≤1000000):
  Calls prog 90 #[.agg #[dv,dr],.string p] w (zh0 w (zgs revs p)):=by
 obtain⟨Ar,cr,rfl,-⟩:=id hR;have HR:=hd_ hR;clear hR;have HLN:=hd_ (zgw revs p);go_enter func90,ntmps90;have hb0:Below w.heap.size w ((w.alloc (.cells #[.slice Ar revs.length cr,dr] 26)).alloc (.cells #[.string ⟨#[]⟩,.int .i64 0,.int .i64 0,.int .i64 0,.int .i64 0,.bool false,.bool false,.bool false,.int .u64 0,.int .i64 0,.string ⟨#[]⟩,.int .i64 0] 66)):=((Below.refl _ _).alloc (Nat.le_refl _) _).alloc (by simp) _
 have hZ:Blk ((w.alloc (.cells #[.slice Ar revs.length cr,dr] 26)).alloc (.cells #[.string ⟨#[]⟩,.int .i64 0,.int .i64 0,.int .i64 0,.int .i64 0,.bool false,.bool false,.bool false,.int .u64 0,.int .i64 0,.string ⟨#[]⟩,.int .i64 0] 66)) (w.heap.size+1) 66 [.string ⟨#[]⟩,.int .i64 0,.int .i64 0,.int .i64 0,.int .i64 0,.bool false,.bool false,.bool false,.int .u64 0,.int .i64 0,.string ⟨#[]⟩,.int .i64 0]:=by
  have h1:=z0l (w.alloc (.cells #[.slice Ar revs.length cr,dr] 26)) [.string ⟨#[]⟩,.int .i64 0,.int .i64 0,.int .i64 0,.int .i64 0,.bool false,.bool false,.bool false,.int .u64 0,.int .i64 0,.string ⟨#[]⟩,.int .i64 0] 66;simp only[World.size_alloc] at h1
  exact h1
 have hB:Blk ((w.alloc (.cells #[.slice Ar revs.length cr,dr] 26)).alloc (.cells #[.string ⟨#[]⟩,.int .i64 0,.int .i64 0,.int .i64 0,.int .i64 0,.bool false,.bool false,.bool false,.int .u64 0,.int .i64 0,.string ⟨#[]⟩,.int .i64 0] 66)) w.heap.size 26 [.slice Ar revs.length cr,dr]:=(z0l w _ _).alloc _;go_upto_region 1 with fail;generalize (w.alloc (.cells #[.slice Ar revs.length cr,dr] 26)).alloc (.cells #[.string ⟨#[]⟩,.int .i64 0,.int .i64 0,.int .i64 0,.int .i64 0,.bool false,.bool false,.bool false,.int .u64 0,.int .i64 0,.string ⟨#[]⟩,.int .i64 0] 66)=W1 at hb0 hZ hB ⊢;obtain⟨d0,d1,-,-⟩:=box2 hB;have HL:=hd_ (zgz revs p (.slice Ar revs.length cr) dr W1 (HR.out.below hb0) hl);have Hb0:=hd_ hb0;have HZ:=hd_ hZ;clear hb0 hZ hB;go_wp2_with fail;refine HL.out.mono ?_;rintro e w2 ⟨A,c,rfl,hb2,hL⟩;clear d0 d1;have HB2:=hd_ hb2;have HLL:=hd_ hL;have hZ2:=HZ.out.below hb2 HZ.out.lt;obtain⟨z0,z1,z2,z3,z4,z5,z6,z7,z8,z9,z10,z11⟩:=z7z hZ2;obtain⟨y0,y1,y2,y3,y4,y5,y6,y7,y8,y9,y10,y11⟩:=zdz hZ2;clear hb2 hL HL;have HRL:Hid (zgs revs p=(zgp revs p).getLast?):=hd_ rfl;have hll:(zgp revs p).length≤revs.length:=HLN.out;generalize zgp revs p=L at HLL hll HRL ⊢;by_cases h0:L.length=0
 ·have HN:Hid (zgs revs p=none):=hd_ (by rw[HRL.out,List.length_eq_zero_iff.1 h0];rfl)
  have q:((L.length:Int) == 0)=true:=by rw[beq_iff_eq];omega
  clear h0;go_wp2_with fail;have hZ9:Blk ((((((((((((w2.setCell ⟨w.heap.size+1,0,none⟩ (.string ⟨#[]⟩)).setCell ⟨w.heap.size+1,1,none⟩ (.int .i64 0)).setCell ⟨w.heap.size+1,2,none⟩ (.int .i64 0)).setCell ⟨w.heap.size+1,3,none⟩ (.int .i64 0)).setCell ⟨w.heap.size+1,4,none⟩ (.int .i64 0)).setCell ⟨w.heap.size+1,5,none⟩ (.bool false)).setCell ⟨w.heap.size+1,6,none⟩ (.bool false)).setCell ⟨w.heap.size+1,7,none⟩ (.bool false)).setCell ⟨w.heap.size+1,8,none⟩ (.int .u64 0)).setCell ⟨w.heap.size+1,9,none⟩ (.int .i64 0)).setCell ⟨w.heap.size+1,10,none⟩ (.string ⟨#[]⟩)).setCell ⟨w.heap.size+1,11,none⟩ (.int .i64 0)) (w.heap.size+1) 66 [.string ⟨#[]⟩,.int .i64 0,.int .i64 0,.int .i64 0,.int .i64 0,.bool false,.bool false,.bool false,.int .u64 0,.int .i64 0,.string ⟨#[]⟩,.int .i64 0]:=ze0 hZ2 z2m;have hB9:Below w.heap.size w ((((((((((((w2.setCell ⟨w.heap.size+1,0,none⟩ (.string ⟨#[]⟩)).setCell ⟨w.heap.size+1,1,none⟩ (.int .i64 0)).setCell ⟨w.heap.size+1,2,none⟩ (.int .i64 0)).setCell ⟨w.heap.size+1,3,none⟩ (.int .i64 0)).setCell ⟨w.heap.size+1,4,none⟩ (.int .i64 0)).setCell ⟨w.heap.size+1,5,none⟩ (.bool false)).setCell ⟨w.heap.size+1,6,none⟩ (.bool false)).setCell ⟨w.heap.size+1,7,none⟩ (.bool false)).setCell ⟨w.heap.size+1,8,none⟩ (.int .u64 0)).setCell ⟨w.heap.size+1,9,none⟩ (.int .i64 0)).setCell ⟨w.heap.size+1,10,none⟩ (.string ⟨#[]⟩)).setCell ⟨w.heap.size+1,11,none⟩ (.int .i64 0)):=ze1 (z0r Hb0.out HB2.out) (show w.heap.size≤w.heap.size+1 by omega) z2m
  generalize ((((((((((((w2.setCell ⟨w.heap.size+1,0,none⟩ (.string ⟨#[]⟩)).setCell ⟨w.heap.size+1,1,none⟩ (.int .i64 0)).setCell ⟨w.heap.size+1,2,none⟩ (.int .i64 0)).setCell ⟨w.heap.size+1,3,none⟩ (.int .i64 0)).setCell ⟨w.heap.size+1,4,none⟩ (.int .i64 0)).setCell ⟨w.heap.size+1,5,none⟩ (.bool false)).setCell ⟨w.heap.size+1,6,none⟩ (.bool false)).setCell ⟨w.heap.size+1,7,none⟩ (.bool false)).setCell ⟨w.heap.size+1,8,none⟩ (.int .u64 0)).setCell ⟨w.heap.size+1,9,none⟩ (.int .i64 0)).setCell ⟨w.heap.size+1,10,none⟩ (.string ⟨#[]⟩)).setCell ⟨w.heap.size+1,11,none⟩ (.int .i64 0))=W9 at hZ9 hB9 ⊢;obtain⟨e0,e1,e2,e3,e4,e5,e6,e7,e8,e9,e10,e11⟩:=z7z hZ9;exact bodyPost_ret (v:=.tuple #[.agg #[.string ⟨#[]⟩,.int .i64 0,.int .i64 0,.int .i64 0,.int .i64 0,.bool false,.bool false,.bool false,.int .u64 0,.int .i64 0,.string ⟨#[]⟩,.int .i64 0],.bool false]) (by simp [results,results90,go_sem,e0,e1,e2,e3,e4,e5,e6,e7,e8,e9,e10,e11]) rfl ⟨by rw[HN.out];rfl,hB9⟩
 ·have hk:L.length - 1<L.length:=by omega
  obtain⟨ad,rfl,hab,hld⟩:=z45.at_ HLL.out hk;have HN:Hid (zgs revs p=some L[L.length - 1]):=hd_ (by rw[HRL.out,List.getLast?_eq_getElem?,List.getElem?_eq_getElem hk])
  have q:((L.length:Int) == 0)=false:=by rw[beq_eq_false_iff_ne];omega
  obtain⟨j,hj⟩:∃ j:Nat,j=L.length - 1:=⟨_,rfl⟩;have hjz:(L.length:Int) - 1=(j:Int):=by omega
  have hjl:(j:Int)<(L.length:Int):=by omega
  have hj0:0≤(j:Int):=by omega
  generalize L[L.length - 1]=r at hld HN;rw[← hj] at hld;obtain⟨x0,x1,x2,x3,x4,x5,x6,x7,x8,x9,x10,x11⟩:=hld;clear h0 hk hj;go_wp2_with fail;have hZ9:=ze0 hZ2 r;have hB9:=ze1 (z0r Hb0.out HB2.out) (show w.heap.size≤w.heap.size+1 by omega) r
  generalize ((((((((((((w2.setCell ⟨w.heap.size+1,0,none⟩ (.string r.path)).setCell ⟨w.heap.size+1,1,none⟩ (.int .i64 r.num)).setCell ⟨w.heap.size+1,2,none⟩ (.int .i64 r.chg)).setCell ⟨w.heap.size+1,3,none⟩ (.int .i64 r.act)).setCell ⟨w.heap.size+1,4,none⟩ (.int .i64 r.ty.base)).setCell ⟨w.heap.size+1,5,none⟩ (.bool r.ty.k)).setCell ⟨w.heap.size+1,6,none⟩ (.bool r.ty.l)).setCell ⟨w.heap.size+1,7,none⟩ (.bool r.ty.x)).setCell ⟨w.heap.size+1,8,none⟩ (.int .u64 r.sum)).setCell ⟨w.heap.size+1,9,none⟩ (.int .i64 r.size)).setCell ⟨w.heap.size+1,10,none⟩ (.string r.frm)).setCell ⟨w.heap.size+1,11,none⟩ (.int .i64 r.fnum))=W9 at hZ9 hB9 ⊢;obtain⟨e0,e1,e2,e3,e4,e5,e6,e7,e8,e9,e10,e11⟩:=z7z hZ9;exact bodyPost_ret (v:=.tuple #[.agg #[.string r.path,.int .i64 r.num,.int .i64 r.chg,.int .i64 r.act,.int .i64 r.ty.base,.bool r.ty.k,.bool r.ty.l,.bool r.ty.x,.int .u64 r.sum,.int .i64 r.size,.string r.frm,.int .i64 r.fnum],.bool true]) (by simp [results,results90,go_sem,e0,e1,e2,e3,e4,e5,e6,e7,e8,e9,e10,e11]) rfl ⟨by rw[HN.out];rfl,hB9⟩
open Go.Sort (grow)
theorem z4z.tail2 {w:World}{ad:Addr}{c n:Nat}{x:Syn}{r:List Syn}(h:z4z w (.slice (some ad) n c) (x :: r)):
  z4z w (.slice (if c=1 then some ad else some ⟨ad.block,ad.off+5,none⟩) r.length (c - 1)) r:=by
 obtain⟨A,c',e,h1,h2,h3,h4,h5⟩:=id h;injection e with e1 e2 e3
 subst e1 e3;rw[List.length_cons] at h1 h5;refine⟨_,_,rfl,by omega,by omega,by
  rw[List.flatMap_cons,List.length_append,List.length_cons] at h3;have h9:x.cells.length=5:=rfl;omega,?_,fun hr=>?_⟩
 ·intro hn;split at hn <;> cases hn
 obtain⟨ad',e',hb,hc⟩:=h5 (by omega)
 injection e' with e'
 subst e';rw[if_neg (by omega)]
 refine⟨_,rfl,hb,fun j u hj=>?_⟩;have:=hc (j+5) u (by
  rw[List.flatMap_cons,List.getElem?_append_right (by simp [Syn.cells])]
  simpa [Syn.cells] using hj)
 unfold Addr.add at this ⊢
 by_cases h0:j=0
 ·subst h0;simpa using this
 ·simpa [Nat.add_assoc,Nat.add_comm 5 j,h0] using this
def zjc (h:Hav)(hs:List Hav)(ps:List Syn):List Hav:=z4u h.path ps++z4w h (z4v h.path ps)++z4y hs (z4x h (z4v h.path ps))
theorem zjd {h:Hav}{hs:List Hav}{x:Syn}{r:List Syn}(hc:z2u x.path h.path<0):zjc h hs (x :: r)=z4t x++zjc h hs r:=by
 unfold zjc;rw[z4u,z4v,if_pos hc,if_pos hc,List.append_assoc,List.append_assoc,List.append_assoc]
theorem zje {h:Hav}{hs:List Hav}:zjc h hs []=h :: z4y hs []:=rfl
theorem zjf {h:Hav}{hs:List Hav}{x:Syn}{r:List Syn}(hc:¬ z2u x.path h.path<0)(hp:x.path=h.path)(hk:z3o x.kind=true):zjc h hs (x :: r)=h :: z4y hs r:=by
 unfold zjc;rw[z4u,z4v,if_neg hc,if_neg hc,z4w,z4x,if_pos hp,if_pos hp,if_pos hk];rfl
theorem resM_go {h:Hav}{hs:List Hav}{x:Syn}{r:List Syn}(hc:¬ z2u x.path h.path<0)(hp:x.path=h.path)(hk:z3o x.kind=false):zjc h hs (x :: r)=z4s x++z4y hs r:=by
 unfold zjc;rw[z4u,z4v,if_neg hc,if_neg hc,z4w,z4x,if_pos hp,if_pos hp,hk];rfl
theorem zjg {h:Hav}{hs:List Hav}{x:Syn}{r:List Syn}(hc:¬ z2u x.path h.path<0)(hp:¬ x.path=h.path):zjc h hs (x :: r)=h :: z4y hs (x :: r):=by
 unfold zjc;rw[z4u,z4v,if_neg hc,if_neg hc,z4w,z4x,if_neg hp,if_neg hp];rfl
theorem zjh (p:ByteArray)(l:List Syn):(z4u p l).length+(z4v p l).length≤l.length:=by
 induction l with
 | nil=>simp [z4u,z4v]
 | cons x r ih =>
  rw[z4u,z4v];split
  ·have:=zj9 x;rw[List.length_append,List.length_cons];omega
  ·simp
theorem zji (h:Hav)(l:List Syn):(z4w h l).length+(z4x h l).length≤l.length+1:=by
 cases l with
 | nil=>simp [z4w,z4x]
 | cons x r =>
  rw[z4w,z4x];split
  ·have:=zj8 x;split <;> simp <;> omega
  ·simp;omega
theorem zjj:∀(hs:List Hav) (ps:List Syn),(z4y hs ps).length≤hs.length+ps.length
 | [],ps=>by have:=zja ps;rw[z4y];simpa using this
 | h :: hs,ps=>by
  have h1:=zjh h.path ps;have h2:=zji h (z4v h.path ps);have h3:=zjj hs (z4x h (z4v h.path ps));rw[z4y,List.length_append,List.length_append,List.length_cons];omega
theorem zjk {O T L:List Hav}{m:Nat}(h:O++T=L)(hl:L.length≤m)(hm:m+1≤1000000):(O.length+1) * 40≤140737488355328:=by
 have:=congrArg List.length h;rw[List.length_append] at this;exact room40 (by omega)
theorem zo5 (es:List zd8)(v:Value)(p:ByteArray)(w:World)(he:Env w)(hE:zdi w v es)(hl32:es.length≤32)(hz:p.size≤1000000)
  (hC:Calls prog 93 #[v] w fun e w'=>e=.returned (.tuple #[.int .i64 0,.int .i64 0])∧Below w.heap.size w w')
  (hF:∀ x∈es,∀ X,Below w.heap.size w X→Calls prog 188 #[.agg #[.bool false,x.l.v,.bool x.l.1.rest,x.r.v,.bool x.r.1.rest],.string p] X (zc3 X (zc2 x.l.1 x.r.1 p))):
  Calls prog 95 #[v,.string p] w (zc3 w (zdt es p)):=by
 obtain⟨A,c,rfl,-⟩:=id hE.1;have HC:=hd_ hC;have HB:=hd_ (fun X (hX:Below w.heap.size w X)=>rBy_ok es _ p X (he.below hX) (hE.below hX) hl32 hz (fun x hx Y hY=>hF x hx Y (z0r hX hY)));generalize zdt es p=o at HB ⊢;clear he hE hC hF;go_enter func95,ntmps95;go_upto_region 1 with fail;go_wp2_with fail;refine HC.out.mono ?_;rintro e w2 ⟨rfl,hb⟩;dsimp only;have HB2:=hd_ hb;have HY:=hd_ (HB.out w2 hb);clear hb HC HB;go_wp2_with fail;refine HY.out.mono ?_;rintro e w3 ⟨rfl,hb⟩;dsimp only;have HB3:=hd_ (z0r HB2.out hb);clear hb HY;go_wp2_with fail;go_ret2;exact⟨rfl,HB3.out⟩
theorem z50.lt {w:World}{ad:Addr}{x:Syn}(h:z50 w ad x):ad.block<w.heap.size:=z03 h.1
end Go.Proofs.YtegeboijhifmcaaGreatDoor
