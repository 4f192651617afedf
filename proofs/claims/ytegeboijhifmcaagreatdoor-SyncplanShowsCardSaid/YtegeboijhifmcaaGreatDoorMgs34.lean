/- A part of the proof. -/
import Derived.Test.YtegeboijhifmcaaGreatDoorMgs30
import Derived.Test.YtegeboijhifmcaaGreatDoorMgs33
set_option linter.unusedVariables false
set_option linter.unusedSimpArgs false
set_option maxHeartbeats 16000000
set_option maxRecDepth 100000
namespace Go.Proofs.YtegeboijhifmcaaGreatDoor
open Go.Proofs.Tryz
open Go.RowKit
def atM (m:Int)(o v:Rev):Rev:=if v.chg≤m then v else o
def rAt (D:List Rev)(p:ByteArray)(m:Int):Rev:=(zgp D p).foldl (atM m) z2m
def gS (p:ByteArray)(f:Rev→Bool)(o:Option Rev)(r:Rev):Option Rev:=if r.path=p∧f r=true then (match o with
  | none=>some r
  | some b=>if b.num<r.num then some r else some b) else o
theorem zh2 (D:List Rev)(p:ByteArray)(f:Rev→Bool):z30 D p f=D.foldl (gS p f) none:=rfl
theorem gS_far {p:ByteArray}{f:Rev→Bool}{o:Option Rev}{r:Rev}(h:¬(r.path=p∧f r=true)):gS p f o r=o:=if_neg h
theorem gS_more {p:ByteArray}{f:Rev→Bool}{o:Option Rev}{r:Rev}(h:r.path=p∧f r=true)(ho:∀ b,o=some b→b.num<r.num):gS p f o r=some r:=by
 unfold gS;rw[if_pos h];cases o with
 | none=>rfl
 | some b=>exact if_pos (ho b rfl)
theorem zh3 (D:List Rev)(p:ByteArray)(f:Rev→Bool):z30 D p f=z30 (zgp D p) p f:=by
 rw[zh2,zh2];unfold zgp;rw[List.foldl_filter];congr 1
 funext o r
 by_cases h:r.path=p
 ·simp [h]
 ·rw[gS_far (fun e=>h e.1)];simp [h]
theorem zh4 (m:Int)(p:ByteArray):∀(l:List Rev) (o:Option Rev),l.Pairwise (fun a b=>a.num<b.num)→(∀ v∈l,0<v.num∧v.path=p)→(∀ b,o=some b→0<b.num∧∀ v∈l,b.num<v.num) →
  zec (l.foldl (gS p (fun v=>decide (v.chg≤m))) o)=l.foldl (atM m) (zec o)∧(l.foldl (gS p (fun v=>decide (v.chg≤m))) o).isSome=decide (0<(l.foldl (atM m) (zec o)).num)
 | [],o,_,_,ho=>by
  refine⟨rfl,?_⟩;cases o with
  | none=>rfl
  | some b=>have:=(ho b rfl).1;simp [zec,this]
 | v :: l,o,hs,hn,ho=>by
  obtain⟨h1,h2⟩:=List.pairwise_cons.1 hs;have hv:=hn v (List.mem_cons_self ..);have hn2:∀ x∈l,0<x.num∧x.path=p:=fun x hx=>hn x (List.mem_cons_of_mem _ hx);rw[List.foldl_cons,List.foldl_cons];by_cases hc:v.chg≤m
  ·have e2:atM m (zec o) v=zec (some v):=by unfold atM;rw[if_pos hc];rfl
   rw[gS_more ⟨hv.2,by simpa using hc⟩ (fun b hb=>(ho b hb).2 v (List.mem_cons_self ..)),e2]
   exact zh4 m p l (some v) h2 hn2 (fun b hb=>by injection hb with hb;subst hb;exact⟨hv.1,h1⟩)
  ·have e2:atM m (zec o) v=zec o:=by unfold atM;rw[if_neg hc]
   rw[gS_far (by simp [hc]),e2]
   exact zh4 m p l o h2 hn2 (fun b hb=>⟨(ho b hb).1,fun x hx=>(ho b hb).2 x (List.mem_cons_of_mem _ hx)⟩)
def Fresh (B:Nat)(v:Value):Prop:=∀ x,v.ownBlock=some x→B≤x
def zh5 (w:World)(revs:List Rev)(p:ByteArray)(e:Ending)(w':World):Prop:=∃ A c,e=.returned (.slice A (zgp revs p).length c)∧Below w.heap.size w w'∧z45 w' (.slice A (zgp revs p).length c) (zgp revs p)∧Fresh w.heap.size (.slice A (zgp revs p).length c)
theorem zh6 (revs:List Rev)(p:ByteArray)(dv dr:Value)(w:World)(hR:z45 w dv revs)(hl:revs.length≤1000000):
  Calls prog 130 #[.agg #[dv,dr],.string p] w (zh5 w revs p):=by
 obtain⟨Ar,cr,rfl,hcr,hmr,-⟩:=id hR;have HR:=hd_ hR;clear hR;unfold maxLen at hmr;go_enter func130,ntmps130;have hB:=z0l w [.slice Ar revs.length cr,dr] 26;have hA:Below w.heap.size w (w.alloc (.cells #[.slice Ar revs.length cr,dr] 26)):=(Below.refl _ _).alloc (Nat.le_refl _) _;go_upto_region 2 with fail;generalize w.alloc (.cells #[.slice Ar revs.length cr,dr] 26)=W1 at hB hA ⊢;obtain⟨d0,-,-,-⟩:=box2 hB;have HA:=hd_ hA;clear hA hB;go_wp2_with fail;clear d0;go_loopw [5,11] (fun u s wr=>∃(k n:Nat) (A:Option Addr) (c:Nat),s=.int .i64 k∧u=.slice A n c∧k≤revs.length∧n≤k∧Hid (n=(zgp (revs.take k) p).length∧Below W1.heap.size W1 wr∧wr.ownsRow W1.heap.size 66 12 (.slice A n c) n ((zgp (revs.take k) p).flatMap Rev.cells))) (fun _ s _=>revs.length - (intOf s).toNat)
 case atStart=>exact⟨0,0,none,0,rfl,rfl,Nat.zero_le _,Nat.le_refl _,rfl,Below.refl _ _,World.ownsRow_nil _ _ _ _⟩
 case round =>
  obtain⟨k,n,A,c,rfl,rfl,hk,hnk,HI⟩:=hrel;by_cases hlt:k<revs.length
  ·obtain⟨ad,rfl,hab,hld⟩:=z45.at_ (HR.out.below (z0r HA.out HI.out.2.1)) hlt;have HT:=hd_ (zgv revs p k hlt);generalize revs[k]=r at hld HT;obtain⟨x0,x1,x2,x3,x4,x5,x6,x7,x8,x9,x10,x11⟩:=hld;have hX:=z0l wr [.string r.path,.int .i64 r.num,.int .i64 r.chg,.int .i64 r.act,.int .i64 r.ty.base,.bool r.ty.k,.bool r.ty.l,.bool r.ty.x,.int .u64 r.sum,.int .i64 r.size,.string r.frm,.int .i64 r.fnum] 66;have hA1:Below wr.heap.size wr (wr.alloc (.cells #[.string r.path,.int .i64 r.num,.int .i64 r.chg,.int .i64 r.act,.int .i64 r.ty.base,.bool r.ty.k,.bool r.ty.l,.bool r.ty.x,.int .u64 r.sum,.int .i64 r.size,.string r.frm,.int .i64 r.fnum] 66)):=(Below.refl _ _).alloc (Nat.le_refl _) _;go_upto_region 5 with fail;clear x0 x1 x2 x3 x4 x5 x6 x7 x8 x9 x10 x11;generalize wr.alloc (.cells #[.string r.path,.int .i64 r.num,.int .i64 r.chg,.int .i64 r.act,.int .i64 r.ty.base,.bool r.ty.k,.bool r.ty.l,.bool r.ty.x,.int .u64 r.sum,.int .i64 r.size,.string r.frm,.int .i64 r.fnum] 66)=V1 at hX hA1 ⊢;obtain⟨y0,y1,y2,y3,y4,y5,y6,y7,y8,y9,y10,y11⟩:=z7z hX;by_cases hp:r.path=p
   ·have q:=ze7 r.path p;rw[decide_eq_true hp] at q;rw[if_pos hp] at HT;have HN:Hid (n=(zgp (revs.take k) p).length∧Below W1.heap.size W1 V1∧V1.ownsRow W1.heap.size 66 12 (.slice A n c) n ((zgp (revs.take k) p).flatMap Rev.cells)):=hd_ ⟨HI.out.1,z0r HI.out.2.1 hA1,z0n HI.out.2.2 hA1⟩;clear hX hA1 hp;go_wp2_with (at_builtin;refine z0k rfl rfl zgt ((z0n HN.out.2.2 ((Below.refl _ _).alloc (Nat.le_refl _) _))) rfl (z0i V1 [.string r.path,.int .i64 r.num,.int .i64 r.chg,.int .i64 r.act,.int .i64 r.ty.base,.bool r.ty.k,.bool r.ty.l,.bool r.ty.x,.int .u64 r.sum,.int .i64 r.size,.string r.frm,.int .i64 r.fnum] _ 12 1 rfl (by decide) _ rfl) rfl (HN.out.2.1.alloc HN.out.2.1.size _) (HN.out.2.1.alloc HN.out.2.1.size _).size (zgx r) (by omega) (by unfold maxLen;omega) ?_;intro A' c' w2 hown2 hbl2)
    have HO2:=hd_ hown2;have HB2:=hd_ hbl2;clear y0 y1 y2 y3 y4 y5 y6 y7 y8 y9 y10 y11 hown2 hbl2;go_wp2_with fail;go_roundw
    case rel =>
     refine⟨k+1,n+1,A',c',by go_num,rfl,by omega,by omega,?_,HB2.out,?_⟩
     ·rw[HT.out,List.length_append,List.length_singleton,← HN.out.1]
     ·rw[HT.out,List.flatMap_append,List.flatMap_cons,List.flatMap_nil,List.append_nil];exact HO2.out
    case measure=>simp [intOf];omega
   ·have q:=ze7 r.path p;rw[decide_eq_false hp] at q;rw[if_neg hp,List.append_nil] at HT;have HN:Hid (n=(zgp (revs.take (k+1)) p).length∧Below W1.heap.size W1 V1∧V1.ownsRow W1.heap.size 66 12 (.slice A n c) n ((zgp (revs.take (k+1)) p).flatMap Rev.cells)):=hd_ (by rw[HT.out];exact⟨HI.out.1,z0r HI.out.2.1 hA1,z0n HI.out.2.2 hA1⟩)
    clear hX hA1 hp HT;go_wp2_with fail;go_roundw
    case rel=>exact⟨k+1,n,A,c,by go_num,rfl,by omega,by omega,HN.out⟩
    case measure=>simp [intOf];omega
  ·have hke:k=revs.length:=by omega
   have HF:Hid (n=(zgp revs p).length∧Below W1.heap.size W1 wr∧wr.ownsRow W1.heap.size 66 12 (.slice A n c) n ((zgp revs p).flatMap Rev.cells)):=hd_ (by
    have:=HI.out;rwa [hke,List.take_length] at this)
   clear HI hke;go_wp2_with fail;go_ret;obtain⟨hn,h1,h2⟩:=HF.out;subst hn;exact⟨A,c,rfl,z0r HA.out h1,Row.of_own h2,fun x e=>Nat.le_trans HA.out.size (h2.lt x e).1⟩
structure AtSt (w wr:World)(g:Nat)(m:Int)(A:Option Addr)(c:Nat)(L:List Rev)(k:Nat):Prop where
 bel:Below w.heap.size w wr
 box1:Blk wr (g+1) 66 [.string ⟨#[]⟩,.int .i64 0,.int .i64 0,.int .i64 0,.int .i64 0,.bool false,.bool false,.bool false,.int .u64 0,.int .i64 0,.string ⟨#[]⟩,.int .i64 0]
 box2:Blk wr (g+1+1) 66 [.string (((L.take k).foldl (atM m) z2m)).path,.int .i64 (((L.take k).foldl (atM m) z2m)).num,.int .i64 (((L.take k).foldl (atM m) z2m)).chg,.int .i64 (((L.take k).foldl (atM m) z2m)).act,.int .i64 (((L.take k).foldl (atM m) z2m)).ty.base,.bool (((L.take k).foldl (atM m) z2m)).ty.k,.bool (((L.take k).foldl (atM m) z2m)).ty.l,.bool (((L.take k).foldl (atM m) z2m)).ty.x,.int .u64 (((L.take k).foldl (atM m) z2m)).sum,.int .i64 (((L.take k).foldl (atM m) z2m)).size,.string (((L.take k).foldl (atM m) z2m)).frm,.int .i64 (((L.take k).foldl (atM m) z2m)).fnum]
 row:z45 wr (.slice A L.length c) L
theorem AtSt.under {w wr X:World}{g:Nat}{m:Int}{A:Option Addr}{c:Nat}{L:List Rev}{k:Nat}(h:AtSt w wr g m A c L k)(hX:Below wr.heap.size wr X):AtSt w X g m A c L k:=
 ⟨z0r h.bel hX,h.box1.below' hX,h.box2.below' hX,h.row.below hX⟩
theorem row12 {w:World}{g size n:Nat}{v:Value}{xs:List Value}(h:Row w size v n xs)(hne:v.ownBlock≠some g)(r:Rev):Row ((((((((((((w.setCell ⟨g,0,none⟩ (.string r.path)).setCell ⟨g,1,none⟩ (.int .i64 r.num)).setCell ⟨g,2,none⟩ (.int .i64 r.chg)).setCell ⟨g,3,none⟩ (.int .i64 r.act)).setCell ⟨g,4,none⟩ (.int .i64 r.ty.base)).setCell ⟨g,5,none⟩ (.bool r.ty.k)).setCell ⟨g,6,none⟩ (.bool r.ty.l)).setCell ⟨g,7,none⟩ (.bool r.ty.x)).setCell ⟨g,8,none⟩ (.int .u64 r.sum)).setCell ⟨g,9,none⟩ (.int .i64 r.size)).setCell ⟨g,10,none⟩ (.string r.frm)).setCell ⟨g,11,none⟩ (.int .i64 r.fnum)) size v n xs:=by
 repeat (refine Row.set_far ?_ hne)
 exact h
theorem at_next (m:Int)(L:List Rev)(k:Nat)(h:k<L.length):(L.take (k+1)).foldl (atM m) z2m=atM m ((L.take k).foldl (atM m) z2m) L[k]:=by
 rw[List.take_succ_eq_append_getElem h,List.foldl_append];rfl
theorem zh7 (revs:List Rev)(p:ByteArray)(m:Int)(dv dr:Value)(w:World)(hR:z45 w dv revs)(hl:revs.length≤1000000):
  Calls prog 94 #[.agg #[dv,dr],.string p,.int .i64 m] w fun e w'=>e=.returned (.tuple #[.agg #[.string ((rAt revs p m)).path,.int .i64 ((rAt revs p m)).num,.int .i64 ((rAt revs p m)).chg,.int .i64 ((rAt revs p m)).act,.int .i64 ((rAt revs p m)).ty.base,.bool ((rAt revs p m)).ty.k,.bool ((rAt revs p m)).ty.l,.bool ((rAt revs p m)).ty.x,.int .u64 ((rAt revs p m)).sum,.int .i64 ((rAt revs p m)).size,.string ((rAt revs p m)).frm,.int .i64 ((rAt revs p m)).fnum],.bool (decide (0<(rAt revs p m).num))])∧Below w.heap.size w w':=by
 obtain⟨Ar,cr,rfl,-⟩:=id hR;have HR:=hd_ hR;clear hR;have HLN:=hd_ (zgw revs p);go_enter func94,ntmps94;have hb0:Below w.heap.size w (((w.alloc (.cells #[.slice Ar revs.length cr,dr] 26)).alloc (.cells #[.string ⟨#[]⟩,.int .i64 0,.int .i64 0,.int .i64 0,.int .i64 0,.bool false,.bool false,.bool false,.int .u64 0,.int .i64 0,.string ⟨#[]⟩,.int .i64 0] 66)).alloc (.cells #[.string ⟨#[]⟩,.int .i64 0,.int .i64 0,.int .i64 0,.int .i64 0,.bool false,.bool false,.bool false,.int .u64 0,.int .i64 0,.string ⟨#[]⟩,.int .i64 0] 66)):=(((Below.refl _ _).alloc (Nat.le_refl _) _).alloc (by simp) _).alloc (by simp;omega) _
 have hB:Blk (((w.alloc (.cells #[.slice Ar revs.length cr,dr] 26)).alloc (.cells #[.string ⟨#[]⟩,.int .i64 0,.int .i64 0,.int .i64 0,.int .i64 0,.bool false,.bool false,.bool false,.int .u64 0,.int .i64 0,.string ⟨#[]⟩,.int .i64 0] 66)).alloc (.cells #[.string ⟨#[]⟩,.int .i64 0,.int .i64 0,.int .i64 0,.int .i64 0,.bool false,.bool false,.bool false,.int .u64 0,.int .i64 0,.string ⟨#[]⟩,.int .i64 0] 66)) w.heap.size 26 [.slice Ar revs.length cr,dr]:=((z0l w _ _).alloc _).alloc _;have hZ:Blk (((w.alloc (.cells #[.slice Ar revs.length cr,dr] 26)).alloc (.cells #[.string ⟨#[]⟩,.int .i64 0,.int .i64 0,.int .i64 0,.int .i64 0,.bool false,.bool false,.bool false,.int .u64 0,.int .i64 0,.string ⟨#[]⟩,.int .i64 0] 66)).alloc (.cells #[.string ⟨#[]⟩,.int .i64 0,.int .i64 0,.int .i64 0,.int .i64 0,.bool false,.bool false,.bool false,.int .u64 0,.int .i64 0,.string ⟨#[]⟩,.int .i64 0] 66)) (w.heap.size+1) 66 [.string ⟨#[]⟩,.int .i64 0,.int .i64 0,.int .i64 0,.int .i64 0,.bool false,.bool false,.bool false,.int .u64 0,.int .i64 0,.string ⟨#[]⟩,.int .i64 0]:=by
  have h1:=(z0l (w.alloc (.cells #[.slice Ar revs.length cr,dr] 26)) [.string ⟨#[]⟩,.int .i64 0,.int .i64 0,.int .i64 0,.int .i64 0,.bool false,.bool false,.bool false,.int .u64 0,.int .i64 0,.string ⟨#[]⟩,.int .i64 0] 66).alloc (.cells #[.string ⟨#[]⟩,.int .i64 0,.int .i64 0,.int .i64 0,.int .i64 0,.bool false,.bool false,.bool false,.int .u64 0,.int .i64 0,.string ⟨#[]⟩,.int .i64 0] 66);simp only[World.size_alloc] at h1
  exact h1
 have hY:Blk (((w.alloc (.cells #[.slice Ar revs.length cr,dr] 26)).alloc (.cells #[.string ⟨#[]⟩,.int .i64 0,.int .i64 0,.int .i64 0,.int .i64 0,.bool false,.bool false,.bool false,.int .u64 0,.int .i64 0,.string ⟨#[]⟩,.int .i64 0] 66)).alloc (.cells #[.string ⟨#[]⟩,.int .i64 0,.int .i64 0,.int .i64 0,.int .i64 0,.bool false,.bool false,.bool false,.int .u64 0,.int .i64 0,.string ⟨#[]⟩,.int .i64 0] 66)) (w.heap.size+1+1) 66 [.string ⟨#[]⟩,.int .i64 0,.int .i64 0,.int .i64 0,.int .i64 0,.bool false,.bool false,.bool false,.int .u64 0,.int .i64 0,.string ⟨#[]⟩,.int .i64 0]:=by
  have h1:=z0l ((w.alloc (.cells #[.slice Ar revs.length cr,dr] 26)).alloc (.cells #[.string ⟨#[]⟩,.int .i64 0,.int .i64 0,.int .i64 0,.int .i64 0,.bool false,.bool false,.bool false,.int .u64 0,.int .i64 0,.string ⟨#[]⟩,.int .i64 0] 66)) [.string ⟨#[]⟩,.int .i64 0,.int .i64 0,.int .i64 0,.int .i64 0,.bool false,.bool false,.bool false,.int .u64 0,.int .i64 0,.string ⟨#[]⟩,.int .i64 0] 66;simp only[World.size_alloc] at h1
  exact h1
 go_upto_region 2 with fail;generalize ((w.alloc (.cells #[.slice Ar revs.length cr,dr] 26)).alloc (.cells #[.string ⟨#[]⟩,.int .i64 0,.int .i64 0,.int .i64 0,.int .i64 0,.bool false,.bool false,.bool false,.int .u64 0,.int .i64 0,.string ⟨#[]⟩,.int .i64 0] 66)).alloc (.cells #[.string ⟨#[]⟩,.int .i64 0,.int .i64 0,.int .i64 0,.int .i64 0,.bool false,.bool false,.bool false,.int .u64 0,.int .i64 0,.string ⟨#[]⟩,.int .i64 0] 66)=W1 at hb0 hB hZ hY ⊢;obtain⟨d0,d1,-,-⟩:=box2 hB;have HL:=hd_ (zh6 revs p (.slice Ar revs.length cr) dr W1 (HR.out.below hb0) hl);have Hb0:=hd_ hb0;have HZ:=hd_ hZ;have HY:=hd_ hY;clear hb0 hZ hB hY;go_wp2_with fail;refine HL.out.mono ?_;rintro e w2 ⟨A,c,rfl,hb2,hL,hf⟩;clear d0 d1;have HAT:Hid (rAt revs p m=(zgp revs p).foldl (atM m) z2m):=hd_ rfl;have hll:(zgp revs p).length≤revs.length:=HLN.out;generalize zgp revs p=L at hL hll hf HAT ⊢;obtain⟨A',c',e',hcc,hmm,-⟩:=id hL;injection e' with e1 e2 e3
 subst e1 e3;unfold maxLen at hmm;have hlt2:=HY.out.lt;have HNE:Hid ((Value.slice A L.length c).ownBlock≠some (w.heap.size+1+1)):=hd_ (fun e=>by have:=hf _ e;omega)
 have HST:Hid (AtSt w w2 w.heap.size m A c L 0):=hd_ ⟨z0r Hb0.out hb2,HZ.out.below' hb2,by rw[List.take_zero];exact HY.out.below' hb2,hL⟩
 clear hb2 hL hf HL e2 hlt2;go_wp2_with fail;go_loopw [15] (fun s wr=>∃ k:Nat,s=.int .i64 k∧k≤L.length∧Hid (AtSt w wr w.heap.size m A c L k)) (fun s _=>L.length - (intOf s).toNat)
 case atStart=>exact⟨0,rfl,Nat.zero_le _,HST.out⟩
 case round =>
  obtain⟨k,rfl,hk,HI⟩:=hrel;by_cases hlt:k<L.length
  ·obtain⟨ad,rfl,hab,hld⟩:=z45.at_ HI.out.row hlt;have HN:=hd_ (at_next m L k hlt);generalize L[k]=r at hld HN;obtain⟨x0,x1,x2,x3,x4,x5,x6,x7,x8,x9,x10,x11⟩:=hld;have hX:=z0l wr [.string r.path,.int .i64 r.num,.int .i64 r.chg,.int .i64 r.act,.int .i64 r.ty.base,.bool r.ty.k,.bool r.ty.l,.bool r.ty.x,.int .u64 r.sum,.int .i64 r.size,.string r.frm,.int .i64 r.fnum] 66;have hA1:Below wr.heap.size wr (wr.alloc (.cells #[.string r.path,.int .i64 r.num,.int .i64 r.chg,.int .i64 r.act,.int .i64 r.ty.base,.bool r.ty.k,.bool r.ty.l,.bool r.ty.x,.int .u64 r.sum,.int .i64 r.size,.string r.frm,.int .i64 r.fnum] 66)):=(Below.refl _ _).alloc (Nat.le_refl _) _;have HS1:=hd_ (HI.out.under hA1);go_upto_region 5 with fail;clear x0 x1 x2 x3 x4 x5 x6 x7 x8 x9 x10 x11;generalize wr.alloc (.cells #[.string r.path,.int .i64 r.num,.int .i64 r.chg,.int .i64 r.act,.int .i64 r.ty.base,.bool r.ty.k,.bool r.ty.l,.bool r.ty.x,.int .u64 r.sum,.int .i64 r.size,.string r.frm,.int .i64 r.fnum] 66)=V1 at hX hA1 HS1 ⊢;obtain⟨x0,x1,x2,x3,x4,x5,x6,x7,x8,x9,x10,x11⟩:=z7z hX;clear hX hA1;by_cases hc:r.chg≤m
   ·have q:decide (r.chg≤m)=true:=by simpa using hc
    have HE:Hid ((L.take (k+1)).foldl (atM m) z2m=r):=hd_ (by rw[HN.out];unfold atM;rw[if_pos hc])
    obtain⟨y0,y1,y2,y3,y4,y5,y6,y7,y8,y9,y10,y11⟩:=zdz HS1.out.box2;obtain⟨z0,z1,z2,z3,z4,z5,z6,z7,z8,z9,z10,z11⟩:=z7z HS1.out.box2;clear hc;go_wp2_with fail;go_roundw
    case rel =>
     refine⟨k+1,by go_num,by omega,ze1 HS1.out.bel (show w.heap.size≤w.heap.size+1+1 by omega) r,far12 HS1.out.box1 (by omega) r,?_,row12 HS1.out.row HNE.out r⟩
     rw[HE.out];exact ze0 HS1.out.box2 r
    case measure=>simp [intOf];omega
   ·have q:decide (r.chg≤m)=false:=by simpa using hc
    have HE:Hid ((L.take (k+1)).foldl (atM m) z2m=(L.take k).foldl (atM m) z2m):=hd_ (by rw[HN.out];unfold atM;rw[if_neg hc])
    clear hc;go_wp2_with fail;go_roundw
    case rel=>exact⟨k+1,by go_num,by omega,HS1.out.bel,HS1.out.box1,by rw[HE.out];exact HS1.out.box2,HS1.out.row⟩
    case measure=>simp [intOf];omega
  ·have hke:k=L.length:=by omega
   obtain⟨r,hr⟩:∃ r,(L.take k).foldl (atM m) z2m=r:=⟨_,rfl⟩;have HAR:Hid (rAt revs p m=r):=hd_ (by rw[HAT.out,← hr,hke,List.take_length])
   have hB2:=HI.out.box2;rw[hr] at hB2;obtain⟨x0,x1,x2,x3,x4,x5,x6,x7,x8,x9,x10,x11⟩:=z7z hB2;obtain⟨y0,y1,y2,y3,y4,y5,y6,y7,y8,y9,y10,y11⟩:=zdz HI.out.box1;obtain⟨z0,z1,z2,z3,z4,z5,z6,z7,z8,z9,z10,z11⟩:=z7z HI.out.box1;have hZ9:=ze0 HI.out.box1 r;have hB9:=ze1 HI.out.bel (show w.heap.size≤w.heap.size+1 by omega) r
   clear hke hr hB2;go_upto_region 8 with fail;refine wp_region_noPanic ?_;go_region_law (fail)
   all_goals
    refine NoPanic.normal ?_;go_wp2_with fail;have hZ8:=Blk.drew' hZ9;have hB8:=hB9.drew;generalize (((((((((((((wr.setCell ⟨w.heap.size+1,0,none⟩ (.string r.path)).setCell ⟨w.heap.size+1,1,none⟩ (.int .i64 r.num)).setCell ⟨w.heap.size+1,2,none⟩ (.int .i64 r.chg)).setCell ⟨w.heap.size+1,3,none⟩ (.int .i64 r.act)).setCell ⟨w.heap.size+1,4,none⟩ (.int .i64 r.ty.base)).setCell ⟨w.heap.size+1,5,none⟩ (.bool r.ty.k)).setCell ⟨w.heap.size+1,6,none⟩ (.bool r.ty.l)).setCell ⟨w.heap.size+1,7,none⟩ (.bool r.ty.x)).setCell ⟨w.heap.size+1,8,none⟩ (.int .u64 r.sum)).setCell ⟨w.heap.size+1,9,none⟩ (.int .i64 r.size)).setCell ⟨w.heap.size+1,10,none⟩ (.string r.frm)).setCell ⟨w.heap.size+1,11,none⟩ (.int .i64 r.fnum))).drew=W9 at hZ8 hB8 ⊢;obtain⟨e0,e1,e2,e3,e4,e5,e6,e7,e8,e9,e10,e11⟩:=z7z hZ8;exact bodyPost_ret (v:=.tuple #[.agg #[.string r.path,.int .i64 r.num,.int .i64 r.chg,.int .i64 r.act,.int .i64 r.ty.base,.bool r.ty.k,.bool r.ty.l,.bool r.ty.x,.int .u64 r.sum,.int .i64 r.size,.string r.frm,.int .i64 r.fnum],.bool (decide (0<r.num))]) (by simp [results,results94,go_sem,Act.put,e0,e1,e2,e3,e4,e5,e6,e7,e8,e9,e10,e11]) rfl ⟨by rw[HAR.out],hB8⟩
open Go.Sort (grow)
def zl4 (pl:List Syn)(h:Hav):Bool:=match stF pl pl.length h.path with
 | none=>true
 | some i=>((pl[i]?).map fun x=>z3o x.kind).getD true
theorem zl5 {pl:List Syn}(hs:z6c pl)(h:Hav):zl4 pl h=true↔zem pl (fun _=>false) h.path:=by
 unfold zl4 zem;rw[stF_get hs];cases e:stF pl pl.length h.path with
 | none=>simp
 | some i =>
  obtain⟨-,hi,-⟩:=zkv (Nat.le_refl _) e;rw[Option.bind_some,List.getElem?_eq_getElem hi];simp [List.getElem?_eq_getElem hi]
structure Bk2 (w wr:World)(pl:List Syn)(hs:List Hav)(k:Nat)(QH:List Hav)(qv:Value):Prop where
 own:wr.ownsRow w.heap.size 44 3 qv QH.length (QH.flatMap Hav.cells)
 low:Below w.heap.size w wr
 is:QH=(hs.take k).filter (zl4 pl)
theorem Bk2.under {w wr wx:World}{pl:List Syn}{hs:List Hav}{k:Nat}{QH:List Hav}{qv:Value}(h:Bk2 w wr pl hs k QH qv)(hb:Below wr.heap.size wr wx):Bk2 w wx pl hs k QH qv:=⟨z0n h.own hb,z0r h.low hb,h.is⟩
theorem Bk2.skip {w wr:World}{pl:List Syn}{hs:List Hav}{k:Nat}{QH:List Hav}{qv:Value}(h:Bk2 w wr pl hs k QH qv)(hk:k<hs.length)(e:zl4 pl hs[k]=false):Bk2 w wr pl hs (k+1) QH qv:=
 ⟨h.own,h.low,by rw[List.take_succ_eq_append_getElem hk,List.filter_append,← h.is];simp [e]⟩
theorem Bk2.push {w wr wx:World}{pl:List Syn}{hs:List Hav}{k:Nat}{QH:List Hav}{qv:Value}{A':Option Addr}{c':Nat}(h:Bk2 w wr pl hs k QH qv)(hk:k<hs.length)(e:zl4 pl hs[k]=true)
  (ho:wx.ownsRow w.heap.size 44 3 (.slice A' (QH.length+1) c') (QH.length+1) (QH.flatMap Hav.cells++hs[k].cells)) (hg:wr.grownBy wx qv.ownBlock):Bk2 w wx pl hs (k+1) (QH++[hs[k]]) (.slice A' (QH.length+1) c'):=by
 refine⟨?_,h.low.grown hg h.low.size (fun x hx=>(h.own.lt x hx).1),by rw[List.take_succ_eq_append_getElem hk,List.filter_append,← h.is];simp [e]⟩
 rw[List.length_append,List.flatMap_append];have e2:[hs[k]].flatMap Hav.cells=hs[k].cells:=by simp
 rw[e2];exact ho
theorem Bk2.len {w wr:World}{pl:List Syn}{hs:List Hav}{k:Nat}{QH:List Hav}{qv:Value}(h:Bk2 w wr pl hs k QH qv):QH.length≤hs.length:=by
 rw[h.is];exact Nat.le_trans (List.length_filter_le _ _) (by rw[List.length_take];exact Nat.min_le_right _ _)
theorem zl6 (pl:List Syn):zeg (fun _=>false) pl=pl:=by
 unfold zeg;have:(zef fun _=>false)=id:=by funext x;rfl
 rw[this,List.map_id]
theorem zl7 (b:ByteArray→Bool)(pl:List Syn):zki b pl≤pl.length:=List.length_filter_le _ _
theorem bkT9 (T:Code)(hT:Tryz.f38.body.bind (zhv 9)=some T)(R:Ending→World→Prop)(X w:World)(B g c bS bC:Nat)(hs:List Hav)(pl:List Syn)(Ah Ap:Option Addr)(ch:Nat)(hAp:0<pl.length→Ap=some ⟨g,0,none⟩)
  (hI:Bk1 X w bS bC (stF pl pl.length) (zkq pl pl.length)) (hO:zjv w B (.slice Ap pl.length c) pl) (hL:Below B X w) (hH:z4b w (.slice Ah hs.length ch) hs) (hOk:zf0 hs) (hsrt:z6c pl) (hfrm:∀ x∈pl,x.frm=zk4 hs x.path)
  (hB:B≤g) (hg:g<X.heap.size) (hn:pl.length≤1000) (hhn:hs.length≤10000)
  (hR:∀ w',zjv w' B (.slice Ap pl.length c) (zeg (blB hs pl) pl)→Below B X w'→R (.returned (.tuple #[])) w')
  (u2 u3 u6 u7 u8 u9 gn gt gu gx gy gz gA gC gD gE gF gG gH gI gJ gK gL gM gN gO gP gQ gR gT gV gW gX gY gZ i6 i7 i8 ia ib ic ie ig ii ij ik il im io ip iq ir iu iv iw ix iy iz iA iB iC iD iE iF iG iH iI iJ iK iL iM iN iO iP iQ iR iS iT iU iV iW iX iY iZ j0 j1 j2 j5 j6 j7 j8 j9 jb jd je jf bw bz bA bB bD bE bF bG bH bI bJ bK bL bM bN bO bP bQ bT bU bV bW bX bY bZ ca cj:Value):
  T.wp prog (bodyPost prog Tryz.f38 R) ⟨#[.slice Ah hs.length ch,.slice Ap pl.length c,u2,u3,.map (some bS),.map (some bC),u6,u7,u8,u9,gn,gt,gu,gx,gy,gz,gA,gC,gD,gE,gF,gG,gH,gI,gJ,gK,gL,gM,gN,gO,gP,gQ,gR,gT,gV,gW,gX,gY,gZ,i6,i7,i8,ia,ib,ic,ie,ig,ii,ij,ik,il,im,io,ip,iq,ir,iu,iv,iw,ix,iy,iz,iA,iB,iC,iD,iE,iF,iG,iH,iI,iJ,iK,iL,iM,iN,iO,iP,iQ,iR,iS,iT,iU,iV,iW,iX,iY,iZ,j0,j1,j2,j5,j6,j7,j8,j9,jb,jd,je,jf,bw,bz,bA,bB,bD,bE,bF,bG,bH,bI,bJ,bK,bL,bM,bN,bO,bP,bQ,bT,bU,bV,bW,bX,bY,bZ,ca,cj],[]⟩ w:=by
 simp only[Tryz.f38,Option.bind_some,zhv,zhu] at hT
 simp at hT
 subst hT;have HI:=hd_ hI;have HO:=hd_ hO;have HH:=hd_ hH;have HL:=hd_ hL;have HOK:=hd_ hOk;have HSRT:=hd_ hsrt;have HFRM:=hd_ hfrm;have HR:=hd_ hR;have HXW:=hd_ (hI.low.size);have HGW:=hd_ hg;have HS0:Hid (Bk2 w w pl hs 0 [] (.slice none 0 0)):=hd_ ⟨World.ownsRow_nil _ _ _ _,Below.refl _ _,rfl⟩;clear hI hO hL hH hOk hsrt hfrm hR;go_wp2_with fail;go_loopw [8,45] (fun q i wq=>∃(k:Nat) (QH:List Hav) (A:Option Addr) (cq:Nat),q=.slice A QH.length cq∧i=.int .i64 k∧k≤hs.length∧Hid (Bk2 w wq pl hs k QH q)) (fun _ i _=>hs.length - (intOf i).toNat)
 case atStart=>exact⟨0,[],none,0,rfl,rfl,Nat.zero_le _,HS0⟩
 case round =>
  obtain⟨k,QH,A,cq,rfl,rfl,hk,HJ⟩:=hrel;clear HS0;by_cases hlt:k<hs.length
  ·have HLT:=hd_ hlt;have hHX:z4b wr (.slice Ah hs.length ch) hs:=Row.below HH.out HJ.out.low;obtain⟨ad,rfl,hab,s0,s1,s2⟩:=z4b.at_ hHX hlt;have HSK:=hd_ (HJ.out.skip hlt);have HPU:=hd_ (fun(A':Option Addr) (c':Nat) (wx:World) (e:zl4 pl hs[k]=true) (W:World) (hb:Below wr.heap.size wr W) ho hg=>(HJ.out.under hb).push (A':=A') (c':=c') (wx:=wx) hlt e ho hg);have HSP:Hid (zl4 pl hs[k]=match stF pl pl.length hs[k].path with | none=>true | some i=>((pl[i]?).map fun x=>z3o x.kind).getD true):=hd_ rfl
   have HQL:=hd_ (show QH.length≤10000 from Nat.le_trans HJ.out.len hhn);generalize hs[k]=h at s0 s1 s2 HSK HPU HSP;have hA:Below wr.heap.size wr (wr.alloc (.cells #[.string h.path,.int .i64 h.num,.string h.loc] 44)):=(Below.refl _ _).alloc (Nat.le_refl _) _;have hbx:=z0l wr [.string h.path,.int .i64 h.num,.string h.loc] 44;have hst:z2f Value.string natV (wr.alloc (.cells #[.string h.path,.int .i64 h.num,.string h.loc] 44)) bS (stF pl pl.length):=z2f.below (z2f.below HI.out.st HJ.out.low) hA;have hlk:=z2f.lookup hst (z2d underlying9) underlying122 (z:=.int .i64 0) (by rfl) h.path true
   have HA:=hd_ hA;have HBX:=hd_ hbx;have hown1:zjv (wr.alloc (.cells #[.string h.path,.int .i64 h.num,.string h.loc] 44)) B (.slice Ap pl.length c) pl:=z0n (z0n HO.out HJ.out.low) hA;have HOX:=hd_ hown1;have HQR:=hd_ (HJ.out.under hA).own;clear hHX hbx hst hown1 hab hlt;cases hsf:stF pl pl.length h.path with
   | none =>
    rw[hsf] at hlk;have hlk2:(Instr.lookup 122 (.map (some bS)) (.string h.path) true).run prog (wr.alloc (.cells #[.string h.path,.int .i64 h.num,.string h.loc] 44))=.ok (.tuple #[.int .i64 0,.bool false]) (wr.alloc (.cells #[.string h.path,.int .i64 h.num,.string h.loc] 44)):=hlk;have HYES:Hid (zl4 pl h=true):=hd_ (by rw[HSP.out,hsf])
    clear hlk hsf;go_upto_region 13 with fail;generalize wr.alloc (.cells #[.string h.path,.int .i64 h.num,.string h.loc] 44)=W1 at HA HBX hlk2 HOX HQR ⊢;clear s0 s1 s2 hA;obtain⟨d0,d1,d2⟩:=z3s (x:=h) HBX.out;have hrow:=z0i W1 [.string h.path,.int .i64 h.num,.string h.loc] 44 3 1 rfl (by unfold maxLen;omega) W1.heap.size rfl
    have hown2:=zcg HQR.out (.cells #[.string h.path,.int .i64 h.num,.string h.loc] 44);have HQ2:=hd_ hown2;have HQL2:=HQL.out;have hsz:w.heap.size≤(W1.alloc (.cells #[.string h.path,.int .i64 h.num,.string h.loc] 44)).heap.size:=by have:=HJ.out.low.size;have:=HA.out.size;simp;omega
    clear hown2;go_wp2_with (at_builtin;refine z0j rfl rfl z54 HQ2.out rfl hrow rfl (z55 h) (by omega) (by unfold maxLen;omega) hsz ?_;intro A' c' w2 hown hgr hob)
    have HN:=hd_ (HPU.out A' c' w2 HYES.out (W1.alloc (.cells #[.string h.path,.int .i64 h.num,.string h.loc] 44)) (z0r HA.out ((Below.refl _ _).alloc (Nat.le_refl _) _)) hown hgr);clear hown hgr hob hrow hlk2 d0 d1 d2;go_wp2_with fail;go_roundw
    case rel=>exact⟨k+1,QH++[h],A',c',by rw[List.length_append];rfl,by go_num,by have:=HLT.out;omega,HN⟩
    case measure=>have:=HLT.out;simp [intOf];omega
   | some i =>
    rw[hsf] at hlk;have hlk2:(Instr.lookup 122 (.map (some bS)) (.string h.path) true).run prog (wr.alloc (.cells #[.string h.path,.int .i64 h.num,.string h.loc] 44))=.ok (.tuple #[.int .i64 i,.bool true]) (wr.alloc (.cells #[.string h.path,.int .i64 h.num,.string h.loc] 44)):=hlk;obtain⟨-,hi,-⟩:=zkv (Nat.le_refl _) hsf;obtain rfl:=hAp (by omega)
    have HSB:Hid (zl4 pl h=z3o pl[i].kind):=hd_ (by rw[HSP.out,hsf];simp [List.getElem?_eq_getElem hi])
    obtain⟨hsy,-⟩:=zjv.cell HOX.out hi;generalize pl[i]=y at HSB hsy;clear hlk hsf;go_upto_region 14 with fail;generalize wr.alloc (.cells #[.string h.path,.int .i64 h.num,.string h.loc] 44)=W1 at HA HBX hsy HOX HQR ⊢;clear s0 s1 s2 hA hlk2;obtain⟨y0,y1,y2,y3,y4⟩:=hsy;have HST:=hd_ (z3u y W1);cases hb:z3o y.kind with
    | false =>
     rw[hb] at HST HSB;have HNO:=hd_ (HSK.out HSB.out);clear hb;go_wp2_with fail;refine HST.out.mono ?_;rintro e w2 ⟨rfl,hb2⟩;dsimp only;have HN:=hd_ (HNO.out.under (z0r HA.out hb2));clear hb2 y0 y1 y2 y3 y4;go_wp2_with fail;go_roundw
     case rel=>exact⟨k+1,QH,A,cq,rfl,by go_num,by have:=HLT.out;omega,HN⟩
     case measure=>have:=HLT.out;simp [intOf];omega
    | true =>
     rw[hb] at HST HSB;clear hb;go_wp2_with fail;refine HST.out.mono ?_;rintro e w2 ⟨rfl,hb2⟩;dsimp only;have HA2:=hd_ (z0r HA.out hb2);have HBX2:=hd_ (HBX.out.below hb2 HBX.out.lt);have HQR2:=hd_ (z0n HQR.out hb2);clear hb2 y0 y1 y2 y3 y4;obtain⟨d0,d1,d2⟩:=z3s (x:=h) HBX2.out;have hrow:=z0i w2 [.string h.path,.int .i64 h.num,.string h.loc] 44 3 1 rfl (by unfold maxLen;omega) w2.heap.size rfl
     have hown2:=zcg HQR2.out (.cells #[.string h.path,.int .i64 h.num,.string h.loc] 44);have HQ2:=hd_ hown2;have HQL2:=HQL.out;have hsz:w.heap.size≤(w2.alloc (.cells #[.string h.path,.int .i64 h.num,.string h.loc] 44)).heap.size:=by have:=HJ.out.low.size;have:=HA2.out.size;simp;omega
     clear hown2;go_wp2_with (at_builtin;refine z0j rfl rfl z54 HQ2.out rfl hrow rfl (z55 h) (by omega) (by unfold maxLen;omega) hsz ?_;intro A' c' w3 hown hgr hob)
     have HN:=hd_ (HPU.out A' c' w3 HSB.out (w2.alloc (.cells #[.string h.path,.int .i64 h.num,.string h.loc] 44)) (z0r HA2.out ((Below.refl _ _).alloc (Nat.le_refl _) _)) hown hgr);clear hown hgr hob hrow d0 d1 d2;go_wp2_with fail;go_roundw
     case rel=>exact⟨k+1,QH++[h],A',c',by rw[List.length_append];rfl,by go_num,by have:=HLT.out;omega,HN⟩
     case measure=>have:=HLT.out;simp [intOf];omega
  ·have hke:k=hs.length:=by omega
   subst hke;have HQE:Hid (QH=hs.filter (zl4 pl)):=hd_ (by have:=HJ.out.is;rw[List.take_length] at this;exact this)
   have HLW:=hd_ HJ.out.low;have HQN:=hd_ HJ.out.len;have HT:=hd_ (fun(T:Code) hT=>bkT17 T hT R X wr B w.heap.size g c bC (hs.length+pl.length) Ap hs pl hAp QH A cq ⟨⟨by rw[zl6];exact z0n HO.out HJ.out.low,(HI.out.com.keep (fun x hx _=>HJ.out.low.block x hx)),HL.out.trans (HJ.out.low.mono (by have:=HXW.out;have:=HGW.out;omega)),zk1.of_own HJ.out.own,HJ.out.low.size⟩,by
    refine bk_init hs pl _ fun q=>?_;rw[HQE.out,List.mem_map];constructor
    ·rintro⟨h,hm,rfl⟩;obtain⟨m1,m2⟩:=List.mem_filter.1 hm;exact⟨h,m1,rfl,(zl5 HSRT.out h).1 m2⟩
    ·rintro⟨h,m1,e,m2⟩;exact⟨h,List.mem_filter.2 ⟨m1,(zl5 HSRT.out h).2 m2⟩,e⟩,by have:=zl7 (fun _=>false) pl;have:=HQN.out;omega⟩ HOK.out HSRT.out HFRM.out hB hg HXW.out HI.out.leC (by omega) (by omega) HR.out)
   clear HJ;rename ∀ a w,Code.wp _ (Code.block 4 _) _ a w→_=>hk7
   have HK7:=hd_ hk7;clear hk7;go_wp2_with fail;exact HK7.out _ _ (HT.out _ (by kernel_rfl) _ _ _ _ _ _ _ _ _ _ _ _ _ _ _ _ _ _ _ _ _ _ _ _ _ _ _ _ _ _ _ _ _ _ _ _ _ _ _ _ _ _ _ _ _ _ _ _ _ _ _ _ _ _ _ _ _ _ _ _ _ _ _ _ _ _ _ _ _ _ _ _ _ _ _ _ _ _ _ _ _ _ _ _ _ _ _ _ _ _ _ _ _ _ _ _ _ _ _ _ _ _ _ _ _ _ _ _ _ _ _ _ _ _ _ _ _ _ _ _ _ _ _ _)
theorem zo7 (p q:Pat)(A B:Option Addr)(a b:Nat)(hv hu:Value)(w:World)(hp:za9 w (.slice A p.parts.length a) p)(hq:za9 w (.slice B q.parts.length b) q)(hm:zai p q=none)(hsym:znr p q):
  Calls prog 139 #[.agg #[.slice A p.parts.length a,.bool p.rest,hv],.agg #[.slice B q.parts.length b,.bool q.rest,hu]] w fun e w'=>e=.returned (.bool false)∧Below w.heap.size w w':=by
 obtain⟨W1,hW1⟩:∃ W,W=(w.alloc (.cells #[.slice A p.parts.length a,.bool p.rest,hv] 115)).alloc (.cells #[.slice B q.parts.length b,.bool q.rest,hu] 115):=⟨_,rfl⟩;have hA:Below w.heap.size w W1:=by rw[hW1];exact ((Below.refl _ _).alloc (Nat.le_refl _) _).alloc (by simp) _
 have h2:Blk W1 w.heap.size 115 [.slice A p.parts.length a,.bool p.rest,hv]:=by rw[hW1];exact (z0l w _ _).alloc _
 have h3:Blk W1 (w.heap.size+1) 115 [.slice B q.parts.length b,.bool q.rest,hu]:=by
  rw[hW1];have:=z0l (w.alloc (.cells #[.slice A p.parts.length a,.bool p.rest,hv] 115)) [.slice B q.parts.length b,.bool q.rest,hu] 115;simp only[World.size_alloc] at this
  exact this
 have HME:=hd_ (zmn p q A B a b W1 (hp.below hA) (hq.below hA) hsym);have HM:=hd_ hm;have HA:=hd_ hA;have HW1:=hd_ hW1;obtain⟨x0,x1⟩:=(⟨h2.cell 0,h2.cell 1⟩:W1.cell? ⟨w.heap.size,0,none⟩=some (.slice A p.parts.length a)∧W1.cell? ⟨w.heap.size,1,none⟩=some (.bool p.rest));obtain⟨y0,y1⟩:=(⟨h3.cell 0,h3.cell 1⟩:W1.cell? ⟨w.heap.size+1,0,none⟩=some (.slice B q.parts.length b)∧W1.cell? ⟨w.heap.size+1,1,none⟩=some (.bool q.rest));clear hp hq hm hA hW1 h2 h3 hsym;go_enter func139,ntmps139;go_upto_region 1 with fail;rw[← HW1.out];go_wp2_with fail;refine HME.out.mono ?_;rintro e w4 ⟨hb,⟨-,rfl⟩ | ⟨m',A6,c6,hmm,-⟩⟩
 case inr=>rw[HM.out] at hmm;cases hmm
 dsimp only;have HB:=hd_ (z0r HA.out hb);have hX:Below w4.heap.size w4 (w4.alloc (.cells #[.slice none 0 0,.bool false] 97)):=(Below.refl _ _).alloc (Nat.le_refl _) _;have HB5:=hd_ (z0r HB.out hX);clear x0 x1 y0 y1 hb hX;go_wp2_with fail;go_ret;exact⟨rfl,HB5.out⟩
section
variable {u0 u1 u2 u3 u4 u5 u6 u7 u8 u9 gn gt gu gx gy gz gA gC gD gE gF gG gH gI gJ gK gL gM gN gO gP gQ gR gT gV gW gX gY gZ i6 i7 i8 ia ib ic ie ig ii ij ik il im io ip iq ir iu iv iw ix iy iz iA iB iC iD iE iF iG iH iI iJ iK iL iM iN iO iP iQ iR iS iT iU iV iW iX iY iZ j0 j1 j2 j5 : Value}
theorem rcR24 (ops:Array Oper)(hops:Tryz.f93.body.bind (zci 24)=some ops)(Q:Exit→Act→World→Prop)(V:World)(g11 g12 g15 g16:Nat)(p q r s:Pat)(A B C D H1 H2 H3 H4:Option Addr)(a b c d n1 n2 n3 n4 c1 c2 c3 c4:Nat)
  (h11:Blk V g11 100 [.slice A p.parts.length a,.bool p.rest,.slice C r.parts.length c,.bool r.rest,.slice H1 n1 c1])
  (h15:Blk V g15 100 [.slice B q.parts.length b,.bool q.rest,.slice D s.parts.length d,.bool s.rest,.slice H2 n2 c2])
  (h12:Blk V g12 115 [.slice C r.parts.length c,.bool r.rest,.slice H3 n3 c3])
  (h16:Blk V g16 115 [.slice D s.parts.length d,.bool s.rest,.slice H4 n4 c4])
  (hp:za9 V (.slice A p.parts.length a) p) (hq:za9 V (.slice B q.parts.length b) q) (hr:za9 V (.slice C r.parts.length c) r) (hs:za9 V (.slice D s.parts.length d) s)
  (hm1:zai p q=none) (hm2:zai r s=none) (hs1:znr p q) (hs2:znr r s)
  (hQ:∀(fN fO fP fQ fR fS fT fU fV:Value) (w':World),Below V.heap.size V w'→Q .normal ⟨#[u0,u1,u2,u3,u4,u5,u6,u7,u8,u9,gn,.pointer (some ⟨g11,0,none⟩),.pointer (some ⟨g12,0,none⟩),gx,gy,.pointer (some ⟨g15,0,none⟩),.pointer (some ⟨g16,0,none⟩),gC,gD,gE,gF,gG,gH,gI,gJ,gK,gL,gM,gN,gO,gP,gQ,gR,gT,gV,gW,gX,gY,gZ,i6,i7,i8,ia,ib,ic,ie,ig,ii,ij,ik,il,im,io,ip,iq,ir,iu,iv,iw,ix,iy,iz,iA,iB,iC,iD,iE,iF,iG,iH,iI,iJ,iK,iL,iM,iN,iO,iP,iQ,fN,fO,fP,fQ,fR,fS,fT,fU,fV,.bool false,j1,j2,j5],[]⟩ w'):
  (Code.region 24 ops true).wp prog Q ⟨#[u0,u1,u2,u3,u4,u5,u6,u7,u8,u9,gn,.pointer (some ⟨g11,0,none⟩),.pointer (some ⟨g12,0,none⟩),gx,gy,.pointer (some ⟨g15,0,none⟩),.pointer (some ⟨g16,0,none⟩),gC,gD,gE,gF,gG,gH,gI,gJ,gK,gL,gM,gN,gO,gP,gQ,gR,gT,gV,gW,gX,gY,gZ,i6,i7,i8,ia,ib,ic,ie,ig,ii,ij,ik,il,im,io,ip,iq,ir,iu,iv,iw,ix,iy,iz,iA,iB,iC,iD,iE,iF,iG,iH,iI,iJ,iK,iL,iM,iN,iO,iP,iQ,iR,iS,iT,iU,iV,iW,iX,iY,iZ,j0,j1,j2,j5],[]⟩ V:=by
 simp only[Tryz.f93,Option.bind_some,zci] at hops
 simp at hops
 subst hops;have HQ:=hd_ hQ;have bR:∀ d os,Below V.heap.size V (grow (redrawn V d) os):=fun d os=>below_regrown V d os;have cL1:∀ d os,Calls prog 137 #[.agg #[.slice A p.parts.length a,.bool p.rest,.slice C r.parts.length c,.bool r.rest,.slice H1 n1 c1]] (grow (redrawn V d) os) fun e w''=>e=.returned (.agg #[.slice A p.parts.length a,.bool p.rest,.slice H1 n1 c1])∧∃ p:Regrown,w''=grow (redrawn V p.d) p.os:=fun d os=>Calls.regrown_of (znv A H1 p.parts.length a n1 c1 p.rest r.rest _ _);have cL2:∀ d' os,Calls prog 137 #[.agg #[.slice B q.parts.length b,.bool q.rest,.slice D s.parts.length d,.bool s.rest,.slice H2 n2 c2]] (grow (redrawn V d') os) fun e w''=>e=.returned (.agg #[.slice B q.parts.length b,.bool q.rest,.slice H2 n2 c2])∧∃ p:Regrown,w''=grow (redrawn V p.d) p.os:=fun d' os=>Calls.regrown_of (znv B H2 q.parts.length b n2 c2 q.rest s.rest _ _);have cC1:∀ d' os,Calls prog 139 #[.agg #[.slice A p.parts.length a,.bool p.rest,.slice H1 n1 c1],.agg #[.slice B q.parts.length b,.bool q.rest,.slice H2 n2 c2]] (grow (redrawn V d') os) fun e w''=>e=.returned (.bool false)∧∃ p:Regrown,w''=grow (redrawn V p.d) p.os:=fun d' os=>Calls.regrown_of (zo7 p q A B a b _ _ _ (hp.below (bR d' os)) (hq.below (bR d' os)) hm1 hs1);have cC2:∀ d' os,Calls prog 139 #[.agg #[.slice C r.parts.length c,.bool r.rest,.slice H3 n3 c3],.agg #[.slice D s.parts.length d,.bool s.rest,.slice H4 n4 c4]] (grow (redrawn V d') os) fun e w''=>e=.returned (.bool false)∧∃ p:Regrown,w''=grow (redrawn V p.d) p.os:=fun d' os=>Calls.regrown_of (zo7 r s C D c d _ _ _ (hr.below (bR d' os)) (hs.below (bR d' os)) hm2 hs2);have x0:=cell_regrown (h11.cell 0);have x1:=cell_regrown (h11.cell 1);have x2:=cell_regrown (h11.cell 2);have x3:=cell_regrown (h11.cell 3);have x4:=cell_regrown (h11.cell 4);have y0:=cell_regrown (h15.cell 0);have y1:=cell_regrown (h15.cell 1);have y2:=cell_regrown (h15.cell 2);have y3:=cell_regrown (h15.cell 3);have y4:=cell_regrown (h15.cell 4);have u0:=cell_regrown (h12.cell 0)
 have u1:=cell_regrown (h12.cell 1);have u2:=cell_regrown (h12.cell 2);have v0:=cell_regrown (h16.cell 0);have v1:=cell_regrown (h16.cell 1);have v2:=cell_regrown (h16.cell 2);clear hQ h11 h12 h15 h16 hp hq hr hs hm1 hm2 hs1 hs2 bR;refine wp_region_quiet_below (by kernel_rfl) (by kernel_rfl) ?_
 iterate 2 (first | go_big_quiet_step (exact cL1 _ _) | quiet_step (exact cL1 _ _))
 iterate 2 (first | go_big_quiet_step (exact cL2 _ _) | quiet_step (exact cL2 _ _))
 iterate 2 (first | go_big_quiet_step (exact cC1 _ _) | quiet_step (exact cC1 _ _))
 repeat (first | go_big_quiet_step (exact cC2 _ _) | quiet_step (exact cC2 _ _))
 refine wpQuiet_nil ?_;intro _ hw9;obtain⟨⟨dq,osq⟩,hw9⟩:=hw9;subst hw9;exact HQ.out _ _ _ _ _ _ _ _ _ _ (below_regrown V dq osq)
end
end Go.Proofs.YtegeboijhifmcaaGreatDoor
