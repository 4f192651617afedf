/- Light: out of the text of this name in wip/hi. -/
import Derived.Test.YtegeboijhifmcaaGreatDoorMgw3
import Derived.Test.YtegeboijhifmcaaGreatDoorMgw11
import Derived.Test.YtegeboijhifmcaaGreatDoorMgw13
import Derived.Test.YtegeboijhifmcaaGreatDoorMgw6
import Derived.Test.YtegeboijhifmcaaGreatDoorMzDfB
import Derived.Test.YtegeboijhifmcaaGreatDoorMgw18
import Derived.Test.YtegeboijhifmcaaGreatDoorMgw21
import Derived.Test.YtegeboijhifmcaaGreatDoorMgw9
import Derived.Test.YtegeboijhifmcaaGreatDoorMgw20
import Derived.Laws.EntriesVeiled
namespace Go.Proofs.YtegeboijhifmcaaGreatDoor
set_option linter.unusedVariables false
set_option linter.unusedSimpArgs false
set_option maxHeartbeats 8000000
set_option maxRecDepth 100000
open Go.RowKit
def Fresh (B:Nat)(v:Value):Prop:=∀ x,v.ownBlock=some x→B≤x
def zh5 (w:World)(revs:List Rev)(p:ByteArray)(e:Ending)(w':World):Prop:=∃ A c,e=.returned (.slice A (zgp revs p).length c)∧Below w.heap.size w w'∧z45 w' (.slice A (zgp revs p).length c) (zgp revs p)∧Fresh w.heap.size (.slice A (zgp revs p).length c)
theorem zh6 (revs:List Rev)(p:ByteArray)(dv dr:Value)(w:World)(hR:z45 w dv revs)(hl:revs.length≤1000000):
  Calls Tryz.prog 130 #[.agg #[dv,dr],.string p] w (zh5 w revs p):=by
 obtain⟨Ar,cr,rfl,hcr,hmr,-⟩:=id hR;have HR:=hd_ hR;clear hR;unfold maxLen at hmr;go_enter Tryz.func130,Tryz.ntmps130;have hB:=z0l w [.slice Ar revs.length cr,dr] 26;have hA:Below w.heap.size w (w.alloc (.cells #[.slice Ar revs.length cr,dr] 26)):=(Below.refl _ _).alloc (Nat.le_refl _) _;go_upto_region 2 with fail;generalize w.alloc (.cells #[.slice Ar revs.length cr,dr] 26)=W1 at hB hA ⊢;obtain⟨d0,-,-,-⟩:=box2 hB;have HA:=hd_ hA;clear hA hB;go_wp2_with fail;clear d0;go_loopw [5,11] (fun u s wr=>∃(k n:Nat) (A:Option Addr) (c:Nat),s=.int .i64 k∧u=.slice A n c∧k≤revs.length∧n≤k∧Hid (n=(zgp (revs.take k) p).length∧Below W1.heap.size W1 wr∧wr.ownsRow W1.heap.size 66 12 (.slice A n c) n ((zgp (revs.take k) p).flatMap Rev.cells))) (fun _ s _=>revs.length - (intOf s).toNat)
 case atStart=>exact⟨0,0,none,0,rfl,rfl,Nat.zero_le _,Nat.le_refl _,rfl,Below.refl _ _,World.ownsRow_nil _ _ _ _⟩
 case round =>
  obtain⟨k,n,A,c,rfl,rfl,hk,hnk,HI⟩:=hrel;by_cases hlt:k<revs.length
  ·obtain⟨ad,rfl,hab,hld⟩:=z45.at_ (HR.out.below (z0r HA.out HI.out.2.1)) hlt;have HT:=hd_ (zgv revs p k hlt);generalize revs[k]=r at hld HT;obtain⟨x0,x1,x2,x3,x4,x5,x6,x7,x8,x9,x10,x11⟩:=hld;have hX:=z0l wr [.string r.path,.int .i64 r.num,.int .i64 r.chg,.int .i64 r.act,.int .i64 r.ty.base,.bool r.ty.k,.bool r.ty.l,.bool r.ty.x,.int .u64 r.sum,.int .i64 r.size,.string r.frm,.int .i64 r.fnum] 66;have hA1:Below wr.heap.size wr (wr.alloc (.cells #[.string r.path,.int .i64 r.num,.int .i64 r.chg,.int .i64 r.act,.int .i64 r.ty.base,.bool r.ty.k,.bool r.ty.l,.bool r.ty.x,.int .u64 r.sum,.int .i64 r.size,.string r.frm,.int .i64 r.fnum] 66)):=(Below.refl _ _).alloc (Nat.le_refl _) _;go_upto_region 5 with fail;clear x0 x1 x2 x3 x4 x5 x6 x7 x8 x9 x10 x11;generalize wr.alloc (.cells #[.string r.path,.int .i64 r.num,.int .i64 r.chg,.int .i64 r.act,.int .i64 r.ty.base,.bool r.ty.k,.bool r.ty.l,.bool r.ty.x,.int .u64 r.sum,.int .i64 r.size,.string r.frm,.int .i64 r.fnum] 66)=V1 at hX hA1 ⊢;obtain⟨y0,y1,y2,y3,y4,y5,y6,y7,y8,y9,y10,y11⟩:=z7z hX;by_cases hp:r.path=p
   ·have q:=ze7 r.path p;rw[decide_eq_true hp] at q;rw[if_pos hp] at HT;have HN:Hid (n=(zgp (revs.take k) p).length∧Below W1.heap.size W1 V1∧V1.ownsRow W1.heap.size 66 12 (.slice A n c) n ((zgp (revs.take k) p).flatMap Rev.cells)):=hd_ ⟨HI.out.1,z0r HI.out.2.1 hA1,z0n HI.out.2.2 hA1⟩;clear hX hA1 hp;go_wp2_with (at_builtin;refine z0k rfl rfl zgt ((z0n HN.out.2.2 ((Below.refl _ _).alloc (Nat.le_refl _) _))) rfl (z0i V1 [.string r.path,.int .i64 r.num,.int .i64 r.chg,.int .i64 r.act,.int .i64 r.ty.base,.bool r.ty.k,.bool r.ty.l,.bool r.ty.x,.int .u64 r.sum,.int .i64 r.size,.string r.frm,.int .i64 r.fnum] _ 12 1 rfl (by decide) _ rfl) rfl (HN.out.2.1.alloc HN.out.2.1.size _) (HN.out.2.1.alloc HN.out.2.1.size _).size (zgx r) (by omega) (by unfold maxLen;omega) ?_;intro A' c' w2 hown2 hbl2)
    have HO2:=hd_ hown2;have HB2:=hd_ hbl2;clear y0 y1 y2 y3 y4 y5 y6 y7 y8 y9 y10 y11 hown2 hbl2;go_wp2_with fail;go_roundw
    case rel =>
     refine⟨k+1,n+1,A',c',by go_num,rfl,by omega,by omega,?_,HB2.out,?_⟩
     ·rw[HT.out,List.length_append,List.length_singleton,← HN.out.1]
     ·rw[HT.out,List.flatMap_append,List.flatMap_cons,List.flatMap_nil,List.append_nil];exact HO2.out
    case measure=>simp [intOf];omega
   ·have q:=ze7 r.path p;rw[decide_eq_false hp] at q;rw[if_neg hp,List.append_nil] at HT;have HN:Hid (n=(zgp (revs.take (k+1)) p).length∧Below W1.heap.size W1 V1∧V1.ownsRow W1.heap.size 66 12 (.slice A n c) n ((zgp (revs.take (k+1)) p).flatMap Rev.cells)):=hd_ (by rw[HT.out];exact⟨HI.out.1,z0r HI.out.2.1 hA1,z0n HI.out.2.2 hA1⟩)
    clear hX hA1 hp HT;go_wp2_with fail;go_roundw
    case rel=>exact⟨k+1,n,A,c,by go_num,rfl,by omega,by omega,HN.out⟩
    case measure=>simp [intOf];omega
  ·have hke:k=revs.length:=by omega
   have HF:Hid (n=(zgp revs p).length∧Below W1.heap.size W1 wr∧wr.ownsRow W1.heap.size 66 12 (.slice A n c) n ((zgp revs p).flatMap Rev.cells)):=hd_ (by
    have:=HI.out;rwa [hke,List.take_length] at this)
   clear HI hke;go_wp2_with fail;go_ret;obtain⟨hn,h1,h2⟩:=HF.out;subst hn;exact⟨A,c,rfl,z0r HA.out h1,Row.of_own h2,fun x e=>Nat.le_trans HA.out.size (h2.lt x e).1⟩
structure AtSt (w wr:World)(g:Nat)(m:Int)(A:Option Addr)(c:Nat)(L:List Rev)(k:Nat):Prop where
 bel:Below w.heap.size w wr
 box1:Blk wr (g+1) 66 [.string ⟨#[]⟩,.int .i64 0,.int .i64 0,.int .i64 0,.int .i64 0,.bool false,.bool false,.bool false,.int .u64 0,.int .i64 0,.string ⟨#[]⟩,.int .i64 0]
 box2:Blk wr (g+1+1) 66 [.string (((L.take k).foldl (atM m) z2m)).path,.int .i64 (((L.take k).foldl (atM m) z2m)).num,.int .i64 (((L.take k).foldl (atM m) z2m)).chg,.int .i64 (((L.take k).foldl (atM m) z2m)).act,.int .i64 (((L.take k).foldl (atM m) z2m)).ty.base,.bool (((L.take k).foldl (atM m) z2m)).ty.k,.bool (((L.take k).foldl (atM m) z2m)).ty.l,.bool (((L.take k).foldl (atM m) z2m)).ty.x,.int .u64 (((L.take k).foldl (atM m) z2m)).sum,.int .i64 (((L.take k).foldl (atM m) z2m)).size,.string (((L.take k).foldl (atM m) z2m)).frm,.int .i64 (((L.take k).foldl (atM m) z2m)).fnum]
 row:z45 wr (.slice A L.length c) L
theorem AtSt.under {w wr X:World}{g:Nat}{m:Int}{A:Option Addr}{c:Nat}{L:List Rev}{k:Nat}(h:AtSt w wr g m A c L k)(hX:Below wr.heap.size wr X):AtSt w X g m A c L k:=
 ⟨z0r h.bel hX,h.box1.below' hX,h.box2.below' hX,h.row.below hX⟩
theorem row12 {w:World}{g size n:Nat}{v:Value}{xs:List Value}(h:Row w size v n xs)(hne:v.ownBlock≠some g)(r:Rev):Row ((((((((((((w.setCell ⟨g,0,none⟩ (.string r.path)).setCell ⟨g,1,none⟩ (.int .i64 r.num)).setCell ⟨g,2,none⟩ (.int .i64 r.chg)).setCell ⟨g,3,none⟩ (.int .i64 r.act)).setCell ⟨g,4,none⟩ (.int .i64 r.ty.base)).setCell ⟨g,5,none⟩ (.bool r.ty.k)).setCell ⟨g,6,none⟩ (.bool r.ty.l)).setCell ⟨g,7,none⟩ (.bool r.ty.x)).setCell ⟨g,8,none⟩ (.int .u64 r.sum)).setCell ⟨g,9,none⟩ (.int .i64 r.size)).setCell ⟨g,10,none⟩ (.string r.frm)).setCell ⟨g,11,none⟩ (.int .i64 r.fnum)) size v n xs:=by
 repeat (refine Row.set_far ?_ hne)
 exact h
theorem at_next (m:Int)(L:List Rev)(k:Nat)(h:k<L.length):(L.take (k+1)).foldl (atM m) z2m=atM m ((L.take k).foldl (atM m) z2m) L[k]:=by
 rw[List.take_succ_eq_append_getElem h,List.foldl_append];rfl
theorem zh7 (revs:List Rev)(p:ByteArray)(m:Int)(dv dr:Value)(w:World)(hR:z45 w dv revs)(hl:revs.length≤1000000):
  Calls Tryz.prog 94 #[.agg #[dv,dr],.string p,.int .i64 m] w fun e w'=>e=.returned (.tuple #[.agg #[.string ((rAt revs p m)).path,.int .i64 ((rAt revs p m)).num,.int .i64 ((rAt revs p m)).chg,.int .i64 ((rAt revs p m)).act,.int .i64 ((rAt revs p m)).ty.base,.bool ((rAt revs p m)).ty.k,.bool ((rAt revs p m)).ty.l,.bool ((rAt revs p m)).ty.x,.int .u64 ((rAt revs p m)).sum,.int .i64 ((rAt revs p m)).size,.string ((rAt revs p m)).frm,.int .i64 ((rAt revs p m)).fnum],.bool (decide (0<(rAt revs p m).num))])∧Below w.heap.size w w':=by
 obtain⟨Ar,cr,rfl,-⟩:=id hR;have HR:=hd_ hR;clear hR;have HLN:=hd_ (zgw revs p);go_enter Tryz.func94,Tryz.ntmps94;have hb0:Below w.heap.size w (((w.alloc (.cells #[.slice Ar revs.length cr,dr] 26)).alloc (.cells #[.string ⟨#[]⟩,.int .i64 0,.int .i64 0,.int .i64 0,.int .i64 0,.bool false,.bool false,.bool false,.int .u64 0,.int .i64 0,.string ⟨#[]⟩,.int .i64 0] 66)).alloc (.cells #[.string ⟨#[]⟩,.int .i64 0,.int .i64 0,.int .i64 0,.int .i64 0,.bool false,.bool false,.bool false,.int .u64 0,.int .i64 0,.string ⟨#[]⟩,.int .i64 0] 66)):=(((Below.refl _ _).alloc (Nat.le_refl _) _).alloc (by simp) _).alloc (by simp;omega) _
 have hB:Blk (((w.alloc (.cells #[.slice Ar revs.length cr,dr] 26)).alloc (.cells #[.string ⟨#[]⟩,.int .i64 0,.int .i64 0,.int .i64 0,.int .i64 0,.bool false,.bool false,.bool false,.int .u64 0,.int .i64 0,.string ⟨#[]⟩,.int .i64 0] 66)).alloc (.cells #[.string ⟨#[]⟩,.int .i64 0,.int .i64 0,.int .i64 0,.int .i64 0,.bool false,.bool false,.bool false,.int .u64 0,.int .i64 0,.string ⟨#[]⟩,.int .i64 0] 66)) w.heap.size 26 [.slice Ar revs.length cr,dr]:=((z0l w _ _).alloc _).alloc _;have hZ:Blk (((w.alloc (.cells #[.slice Ar revs.length cr,dr] 26)).alloc (.cells #[.string ⟨#[]⟩,.int .i64 0,.int .i64 0,.int .i64 0,.int .i64 0,.bool false,.bool false,.bool false,.int .u64 0,.int .i64 0,.string ⟨#[]⟩,.int .i64 0] 66)).alloc (.cells #[.string ⟨#[]⟩,.int .i64 0,.int .i64 0,.int .i64 0,.int .i64 0,.bool false,.bool false,.bool false,.int .u64 0,.int .i64 0,.string ⟨#[]⟩,.int .i64 0] 66)) (w.heap.size+1) 66 [.string ⟨#[]⟩,.int .i64 0,.int .i64 0,.int .i64 0,.int .i64 0,.bool false,.bool false,.bool false,.int .u64 0,.int .i64 0,.string ⟨#[]⟩,.int .i64 0]:=by
  have h1:=(z0l (w.alloc (.cells #[.slice Ar revs.length cr,dr] 26)) [.string ⟨#[]⟩,.int .i64 0,.int .i64 0,.int .i64 0,.int .i64 0,.bool false,.bool false,.bool false,.int .u64 0,.int .i64 0,.string ⟨#[]⟩,.int .i64 0] 66).alloc (.cells #[.string ⟨#[]⟩,.int .i64 0,.int .i64 0,.int .i64 0,.int .i64 0,.bool false,.bool false,.bool false,.int .u64 0,.int .i64 0,.string ⟨#[]⟩,.int .i64 0] 66);simp only[World.size_alloc] at h1
  exact h1
 have hY:Blk (((w.alloc (.cells #[.slice Ar revs.length cr,dr] 26)).alloc (.cells #[.string ⟨#[]⟩,.int .i64 0,.int .i64 0,.int .i64 0,.int .i64 0,.bool false,.bool false,.bool false,.int .u64 0,.int .i64 0,.string ⟨#[]⟩,.int .i64 0] 66)).alloc (.cells #[.string ⟨#[]⟩,.int .i64 0,.int .i64 0,.int .i64 0,.int .i64 0,.bool false,.bool false,.bool false,.int .u64 0,.int .i64 0,.string ⟨#[]⟩,.int .i64 0] 66)) (w.heap.size+1+1) 66 [.string ⟨#[]⟩,.int .i64 0,.int .i64 0,.int .i64 0,.int .i64 0,.bool false,.bool false,.bool false,.int .u64 0,.int .i64 0,.string ⟨#[]⟩,.int .i64 0]:=by
  have h1:=z0l ((w.alloc (.cells #[.slice Ar revs.length cr,dr] 26)).alloc (.cells #[.string ⟨#[]⟩,.int .i64 0,.int .i64 0,.int .i64 0,.int .i64 0,.bool false,.bool false,.bool false,.int .u64 0,.int .i64 0,.string ⟨#[]⟩,.int .i64 0] 66)) [.string ⟨#[]⟩,.int .i64 0,.int .i64 0,.int .i64 0,.int .i64 0,.bool false,.bool false,.bool false,.int .u64 0,.int .i64 0,.string ⟨#[]⟩,.int .i64 0] 66;simp only[World.size_alloc] at h1
  exact h1
 go_upto_region 2 with fail;generalize ((w.alloc (.cells #[.slice Ar revs.length cr,dr] 26)).alloc (.cells #[.string ⟨#[]⟩,.int .i64 0,.int .i64 0,.int .i64 0,.int .i64 0,.bool false,.bool false,.bool false,.int .u64 0,.int .i64 0,.string ⟨#[]⟩,.int .i64 0] 66)).alloc (.cells #[.string ⟨#[]⟩,.int .i64 0,.int .i64 0,.int .i64 0,.int .i64 0,.bool false,.bool false,.bool false,.int .u64 0,.int .i64 0,.string ⟨#[]⟩,.int .i64 0] 66)=W1 at hb0 hB hZ hY ⊢;obtain⟨d0,d1,-,-⟩:=box2 hB;have HL:=hd_ (zh6 revs p (.slice Ar revs.length cr) dr W1 (HR.out.below hb0) hl);have Hb0:=hd_ hb0;have HZ:=hd_ hZ;have HY:=hd_ hY;clear hb0 hZ hB hY;go_wp2_with fail;refine HL.out.mono ?_;rintro e w2 ⟨A,c,rfl,hb2,hL,hf⟩;clear d0 d1;have HAT:Hid (rAt revs p m=(zgp revs p).foldl (atM m) z2m):=hd_ rfl;have hll:(zgp revs p).length≤revs.length:=HLN.out;generalize zgp revs p=L at hL hll hf HAT ⊢;obtain⟨A',c',e',hcc,hmm,-⟩:=id hL;injection e' with e1 e2 e3
 subst e1 e3;unfold maxLen at hmm;have hlt2:=HY.out.lt;have HNE:Hid ((Value.slice A L.length c).ownBlock≠some (w.heap.size+1+1)):=hd_ (fun e=>by have:=hf _ e;omega)
 have HST:Hid (AtSt w w2 w.heap.size m A c L 0):=hd_ ⟨z0r Hb0.out hb2,HZ.out.below' hb2,by rw[List.take_zero];exact HY.out.below' hb2,hL⟩
 clear hb2 hL hf HL e2 hlt2;go_wp2_with fail;go_loopw [15] (fun s wr=>∃ k:Nat,s=.int .i64 k∧k≤L.length∧Hid (AtSt w wr w.heap.size m A c L k)) (fun s _=>L.length - (intOf s).toNat)
 case atStart=>exact⟨0,rfl,Nat.zero_le _,HST.out⟩
 case round =>
  obtain⟨k,rfl,hk,HI⟩:=hrel;by_cases hlt:k<L.length
  ·obtain⟨ad,rfl,hab,hld⟩:=z45.at_ HI.out.row hlt;have HN:=hd_ (at_next m L k hlt);generalize L[k]=r at hld HN;obtain⟨x0,x1,x2,x3,x4,x5,x6,x7,x8,x9,x10,x11⟩:=hld;have hX:=z0l wr [.string r.path,.int .i64 r.num,.int .i64 r.chg,.int .i64 r.act,.int .i64 r.ty.base,.bool r.ty.k,.bool r.ty.l,.bool r.ty.x,.int .u64 r.sum,.int .i64 r.size,.string r.frm,.int .i64 r.fnum] 66;have hA1:Below wr.heap.size wr (wr.alloc (.cells #[.string r.path,.int .i64 r.num,.int .i64 r.chg,.int .i64 r.act,.int .i64 r.ty.base,.bool r.ty.k,.bool r.ty.l,.bool r.ty.x,.int .u64 r.sum,.int .i64 r.size,.string r.frm,.int .i64 r.fnum] 66)):=(Below.refl _ _).alloc (Nat.le_refl _) _;have HS1:=hd_ (HI.out.under hA1);go_upto_region 5 with fail;clear x0 x1 x2 x3 x4 x5 x6 x7 x8 x9 x10 x11;generalize wr.alloc (.cells #[.string r.path,.int .i64 r.num,.int .i64 r.chg,.int .i64 r.act,.int .i64 r.ty.base,.bool r.ty.k,.bool r.ty.l,.bool r.ty.x,.int .u64 r.sum,.int .i64 r.size,.string r.frm,.int .i64 r.fnum] 66)=V1 at hX hA1 HS1 ⊢;obtain⟨x0,x1,x2,x3,x4,x5,x6,x7,x8,x9,x10,x11⟩:=z7z hX;clear hX hA1;by_cases hc:r.chg≤m
   ·have q:decide (r.chg≤m)=true:=by simpa using hc
    have HE:Hid ((L.take (k+1)).foldl (atM m) z2m=r):=hd_ (by rw[HN.out];unfold atM;rw[if_pos hc])
    obtain⟨y0,y1,y2,y3,y4,y5,y6,y7,y8,y9,y10,y11⟩:=zdz HS1.out.box2;obtain⟨z0,z1,z2,z3,z4,z5,z6,z7,z8,z9,z10,z11⟩:=z7z HS1.out.box2;clear hc;go_wp2_with fail;go_roundw
    case rel =>
     refine⟨k+1,by go_num,by omega,ze1 HS1.out.bel (show w.heap.size≤w.heap.size+1+1 by omega) r,far12 HS1.out.box1 (by omega) r,?_,row12 HS1.out.row HNE.out r⟩
     rw[HE.out];exact ze0 HS1.out.box2 r
    case measure=>simp [intOf];omega
   ·have q:decide (r.chg≤m)=false:=by simpa using hc
    have HE:Hid ((L.take (k+1)).foldl (atM m) z2m=(L.take k).foldl (atM m) z2m):=hd_ (by rw[HN.out];unfold atM;rw[if_neg hc])
    clear hc;go_wp2_with fail;go_roundw
    case rel=>exact⟨k+1,by go_num,by omega,HS1.out.bel,HS1.out.box1,by rw[HE.out];exact HS1.out.box2,HS1.out.row⟩
    case measure=>simp [intOf];omega
  ·have hke:k=L.length:=by omega
   obtain⟨r,hr⟩:∃ r,(L.take k).foldl (atM m) z2m=r:=⟨_,rfl⟩;have HAR:Hid (rAt revs p m=r):=hd_ (by rw[HAT.out,← hr,hke,List.take_length])
   have hB2:=HI.out.box2;rw[hr] at hB2;obtain⟨x0,x1,x2,x3,x4,x5,x6,x7,x8,x9,x10,x11⟩:=z7z hB2;obtain⟨y0,y1,y2,y3,y4,y5,y6,y7,y8,y9,y10,y11⟩:=zdz HI.out.box1;obtain⟨z0,z1,z2,z3,z4,z5,z6,z7,z8,z9,z10,z11⟩:=z7z HI.out.box1;have hZ9:=ze0 HI.out.box1 r;have hB9:=ze1 HI.out.bel (show w.heap.size≤w.heap.size+1 by omega) r
   clear hke hr hB2;go_upto_region 8 with fail;refine wp_region_noPanic ?_;go_region_law (fail)
   all_goals
    refine NoPanic.normal ?_;go_wp2_with fail;have hZ8:=Blk.drew' hZ9;have hB8:=hB9.drew;generalize (((((((((((((wr.setCell ⟨w.heap.size+1,0,none⟩ (.string r.path)).setCell ⟨w.heap.size+1,1,none⟩ (.int .i64 r.num)).setCell ⟨w.heap.size+1,2,none⟩ (.int .i64 r.chg)).setCell ⟨w.heap.size+1,3,none⟩ (.int .i64 r.act)).setCell ⟨w.heap.size+1,4,none⟩ (.int .i64 r.ty.base)).setCell ⟨w.heap.size+1,5,none⟩ (.bool r.ty.k)).setCell ⟨w.heap.size+1,6,none⟩ (.bool r.ty.l)).setCell ⟨w.heap.size+1,7,none⟩ (.bool r.ty.x)).setCell ⟨w.heap.size+1,8,none⟩ (.int .u64 r.sum)).setCell ⟨w.heap.size+1,9,none⟩ (.int .i64 r.size)).setCell ⟨w.heap.size+1,10,none⟩ (.string r.frm)).setCell ⟨w.heap.size+1,11,none⟩ (.int .i64 r.fnum))).drew=W9 at hZ8 hB8 ⊢;obtain⟨e0,e1,e2,e3,e4,e5,e6,e7,e8,e9,e10,e11⟩:=z7z hZ8;exact bodyPost_ret (v:=.tuple #[.agg #[.string r.path,.int .i64 r.num,.int .i64 r.chg,.int .i64 r.act,.int .i64 r.ty.base,.bool r.ty.k,.bool r.ty.l,.bool r.ty.x,.int .u64 r.sum,.int .i64 r.size,.string r.frm,.int .i64 r.fnum],.bool (decide (0<r.num))]) (by simp [results,Tryz.results94,go_sem,Act.put,e0,e1,e2,e3,e4,e5,e6,e7,e8,e9,e10,e11]) rfl ⟨by rw[HAR.out],hB8⟩
open Go.Sort (grow)
theorem z4b.under {w w':World}{v:Value}{l:List Hav}(h:z4b w v l)(hb:Below w.heap.size w w'):z4b w' v l:=Row.below h hb
theorem zm3 (l:List Hav)(v:Value)(p:ByteArray)(w:World)(he:Env w)(hH:z4b w v l)(hv:∀ x∈l,z2s x.path=true∧x.path.size≤1000000)(hp:z2s p=true)(hz:p.size≤1000000)(hl:l.length≤1000000):
  Calls Tryz.prog 141 #[v,.string p] w fun e w'=>e=.returned (.tuple #[.int .i64 (zlq l p).1,.bool (zlq l p).2])∧Below w.heap.size w w':=by
 obtain⟨A,c,rfl,-⟩:=id hH;have HE:=hd_ he;have HH:=hd_ hH;have HV:=hd_ hv;have HP:=hd_ hp;have HZ:=hd_ hz;clear he hH hv hp hz;go_enter Tryz.func141,Tryz.ntmps141;go_wp2_with fail;go_loopw [6] (fun i wr=>∃ k:Nat,i=.int .i64 k∧k≤l.length∧Hid ((∀ j (hj:j<l.length),j<k→l[j].path≠p∧¬ 0<z2u l[j].path p)∧Below w.heap.size w wr)) (fun i _=>l.length - (intOf i).toNat)
 case atStart=>exact⟨0,rfl,Nat.zero_le _,hd_ ⟨fun j _ h=>by omega,Below.refl _ _⟩⟩
 case round =>
  obtain⟨k,rfl,hk,HI⟩:=hrel;by_cases hlt:k<l.length
  ·obtain⟨ad,rfl,hab,s0,-,-⟩:=z4b.at_ (HH.out.under HI.out.2) hlt;have HVK:=hd_ (HV.out l[k] (List.getElem_mem hlt));have HAT:=hd_ (zlt (p:=p) hlt HI.out.1);have HNX:Hid (l[k].path≠p→¬ 0<z2u l[k].path p→∀ j (hj:j<l.length),j<k+1→l[j].path≠p∧¬ 0<z2u l[j].path p):=hd_ fun h1 h2 j hj hjk=>by
    by_cases e:j=k
    ·subst e;exact⟨h1,h2⟩
    ·exact HI.out.1 j hj (by omega)
   generalize l[k].path=q at s0 HVK HAT HNX;have HOR:=hd_ (zhp q p wr (HE.out.below HI.out.2) (by have:=HVK.out.2;omega) (by have:=HZ.out;omega))
   rw[zho HVK.out.1 HP.out] at HOR;have HB:=hd_ HI.out.2;have HLT:=hd_ hlt;by_cases h1:q=p
   ·have q1:(q.toList == p.toList)=true:=by rw[z3x,decide_eq_true h1]
    have HR:=hd_ (HAT.out.1 h1);clear h1;go_wp2_with fail;go_ret2;rw[HR.out];exact⟨rfl,HB.out⟩
   ·have q1:(q.toList == p.toList)=false:=by rw[z3x,decide_eq_false h1]
    have HN1:=hd_ h1;clear h1;obtain⟨n,hn⟩:∃ n,z2u q p=n:=⟨_,rfl⟩;have HN:=hd_ hn;rw[hn] at HOR;clear hn;by_cases h2:0<n
    ·have q2:decide (0<n)=true:=decide_eq_true h2;have HR:=hd_ (HAT.out.2 HN1.out (by rw[HN.out];exact h2))
     clear h2;go_wp2_with fail;refine HOR.out.mono ?_;rintro e w2 ⟨rfl,hb⟩;have HB2:=hd_ (z0r HB.out hb);clear hb s0;go_wp2_with fail;go_ret2;rw[HR.out];exact⟨rfl,HB2.out⟩
    ·have q2:decide (0<n)=false:=decide_eq_false h2;have HR:=hd_ (HNX.out HN1.out (by rw[HN.out];exact h2))
     clear h2;go_wp2_with fail;refine HOR.out.mono ?_;rintro e w2 ⟨rfl,hb⟩;have HB2:=hd_ (z0r HB.out hb);clear hb s0;go_wp2_with fail;go_roundw
     case rel=>exact⟨k+1,by go_num,by have:=HLT.out;omega,hd_ ⟨fun j hj h=>⟨(HR.out j hj h).1,Int.not_lt.2 (HR.out j hj h).2⟩,HB2.out⟩⟩
     case measure=>have:=HLT.out;simp [intOf];omega
  ·have hke:k=l.length:=by omega
   have HR:=hd_ (zlu (l:=l) (p:=p) fun j hj=>HI.out.1 j hj (by omega))
   have HB:=hd_ HI.out.2;subst hke;clear HI;go_wp2_with fail;go_ret2;rw[HR.out];exact⟨rfl,HB.out⟩
theorem zm4 {P:Program}{w:World}{t e:TypeId}{size n c hi:Nat}{A:Option Addr}{xs:List Value}(ht:P.underlying t=some (.slice e))(hs:∀ w,(sizeOf e).run P w=.ok size w)
  (h:Row w size (.slice A n c) n xs) (h2:hi≤n):
  ∃ A' c',(∀ X,(Instr.sliceAt t (.slice A n c) none (some (.int .i64 hi)) none).run P X=.ok (.slice A' hi c') X)∧∀ W:World,Row W size (.slice A n c) n xs→Row W size (.slice A' hi c') hi (xs.take (hi * size)):=by
 have hc:n≤c:=by obtain⟨A',c',e,hc,_⟩:=id h;injection e with e1 e2 e3;omega
 have he:P.elem t=e:=by simp [Program.elem,ht]
 have ht':P.underlying t=some (.slice (P.elem t)):=by rw[he];exact ht
 have hr:∀ W:World,Row W size (.slice A n c) n xs→Row W size (.slice (if c=0 then A else A.map (·.add 0)) hi c) hi (xs.take (hi * size)):=fun W hW=>by
  have hr:=Row.slice hW (Nat.zero_le hi) h2;simp only[Nat.zero_mul,List.drop_zero,Nat.sub_zero] at hr
  exact hr
 refine⟨_,_,fun X=>?_,hr⟩
 ·rw[run_sliceAt_slice X t _ _ _ _ ht',run_slice_h X t A n c ht' _ _ (by omega) (by omega),he,hs]
  simp [Result.andThen,sliced]
theorem zm5 {P:Program}{w:World}{t e:TypeId}{size n c lo:Nat}{A:Option Addr}{xs:List Value}(ht:P.underlying t=some (.slice e))(hs:∀ w,(sizeOf e).run P w=.ok size w)
  (h:Row w size (.slice A n c) n xs) (h1:lo≤n):
  ∃ A' c',(∀ X,(Instr.sliceAt t (.slice A n c) (some (.int .i64 lo)) none none).run P X=.ok (.slice A' (n - lo) c') X)∧∀ W:World,Row W size (.slice A n c) n xs→Row W size (.slice A' (n - lo) c') (n - lo) (xs.drop (lo * size)):=by
 have he:P.elem t=e:=by simp [Program.elem,ht]
 have ht':P.underlying t=some (.slice (P.elem t)):=by rw[he];exact ht
 have hr:∀ W:World,Row W size (.slice A n c) n xs→Row W size (.slice (if c=lo then A else A.map (·.add (lo * size))) (n - lo) (c - lo)) (n - lo) (xs.drop (lo * size)):=fun W hW=>by
  have hr:=Row.slice hW h1 (Nat.le_refl _);rw[List.take_of_length_le (by rw[List.length_drop,h.len,← Nat.sub_mul];exact Nat.le_refl _)] at hr
  exact hr
 refine⟨_,_,fun X=>?_,hr⟩
 ·rw[run_sliceAt_slice X t _ _ _ _ ht',run_slice_l X t A n c ht' _ _ (by omega) (by omega),he,hs]
  simp [Result.andThen,sliced]
theorem zm6 (l:List Hav):∀ v∈l.flatMap Hav.cells,v.oneCell'=true:=by
 intro v hv;obtain⟨x,-,hx⟩:=List.mem_flatMap.1 hv;exact z55 x v hx
theorem zm7 (l:List Hav)(i:Nat):(l.flatMap Hav.cells).take (i * 3)=(l.take i).flatMap Hav.cells:=by
 induction l generalizing i with
 | nil=>simp
 | cons x l ih =>
  cases i with
  | zero=>simp
  | succ i =>
   have e:(i+1) * 3=3+i * 3:=by omega
   rw[List.take_succ_cons,List.flatMap_cons,List.flatMap_cons,← ih,e];exact List.take_length_add_append (l₁:=x.cells) (i * 3)
theorem zm8 (l:List Hav)(i:Nat):(l.flatMap Hav.cells).drop (i * 3)=(l.drop i).flatMap Hav.cells:=by
 induction l generalizing i with
 | nil=>simp
 | cons x l ih =>
  cases i with
  | zero=>simp
  | succ i =>
   have e:(i+1) * 3=3+i * 3:=by omega
   rw[List.drop_succ_cons,List.flatMap_cons,← ih,e];exact List.drop_length_add_append (l₁:=x.cells) (i * 3)
theorem zm9 {w w':World}{v:Value}(hG:w.grownBy w' v.ownBlock)(hv:v.ownBlock=none):Below w.heap.size w w':=⟨hG.os,hG.tape,hG.output,hG.size,fun k hk=>hG.block k hk (by rw[hv];simp)⟩
theorem puR2 (ops:Array Oper)(hops:Tryz.f97.body.bind (zci 2)=some ops)(Q:Exit→Act→World→Prop)(V:World)(A:Option Addr)(c g3 i:Nat)(l:List Hav)(h:Hav)
  (hH:z4b V (.slice A l.length c) l) (hB:Blk V g3 44 [.string h.path,.int .i64 h.num,.string h.loc]) (hi:i≤l.length) (hl:l.length≤1000000)
  (u1 u2 u4 u6 u7 u8 u9 gn gt gu gx gy gz gA gC gD gE gF gG gH gI gJ gK gL gM gN gO:Value)
  (hQ:∀(el em en eo er et eu:Value) (A':Option Addr) (c':Nat) (w':World),Hid (Below V.heap.size V w'∧w'.ownsRow V.heap.size 44 3 (.slice A' (i+1) c') (i+1) ((l.take i++[h]).flatMap Hav.cells))→Q .normal ⟨#[.slice A l.length c,u1,u2,.pointer (some ⟨g3,0,none⟩),u4,.int .i64 i,u6,.slice A' (i+1) c',u8,u9,gn,gt,gu,gx,gy,el,em,en,eo,er,et,eu,gH,gI,gJ,gK,gL,gM,gN,gO],[]⟩ w'):
  (Code.region 2 ops true).wp Tryz.prog Q ⟨#[.slice A l.length c,u1,u2,.pointer (some ⟨g3,0,none⟩),u4,.int .i64 i,u6,u7,u8,u9,gn,gt,gu,gx,gy,gz,gA,gC,gD,gE,gF,gG,gH,gI,gJ,gK,gL,gM,gN,gO],[]⟩ V:=by
 simp only[Tryz.f97,Option.bind_some,zci] at hops
 simp at hops
 subst hops;obtain⟨Ai,ci,hsl,hrw⟩:=zm4 (P:=Tryz.prog) (w:=V) Tryz.underlying28 zio hH hi;have HQ:=hd_ hQ;have HROW:Hid (∀ W,Below V.heap.size V W→Row W 3 (.slice Ai i ci) i ((l.take i).flatMap Hav.cells)):=hd_ fun W hW=>by rw[← zm7];exact hrw W (z4b.under hH hW)
 have HONE:Hid (∀ v∈(l.take i).flatMap Hav.cells,v.oneCell'=true):=hd_ (zm6 _);have HF:Hid (∀ w',Below V.heap.size V w'→w'.cell? ⟨g3,0,none⟩=some (.string h.path)∧w'.cell? ⟨g3,1,none⟩=some (.int .i64 h.num)∧w'.cell? ⟨g3,2,none⟩=some (.string h.loc)):=hd_ fun w' hb=>z3s (hB.below hb hB.lt);have HCAT:Hid ((l.take i).flatMap Hav.cells++[.string h.path,.int .i64 h.num,.string h.loc]=(l.take i++[h]).flatMap Hav.cells):=hd_ (by rw[List.flatMap_append];rfl)
 clear hQ hH hB hrw;obtain⟨f0,f1,f2⟩:=HF.out V (Below.refl _ _);refine wp_region_noPanic ?_;go_region_law (first
   | (refine zce (base:=V.heap.size) (n:=0) (xs:=[]) rfl rfl z54 (World.ownsRow_nil _ _ _ _) (by simp [Act.eval,Act.put];done) (HROW.out _ (Below.refl _ _).drew) (by simp [Act.eval,Act.put];done) HONE.out (by omega) (by unfold maxLen;omega) (by simp) ?_;intro A5 c5 w5 hO5 hG5 hw5;have hX5:=zm9 hG5 rfl;have hS5:Below V.heap.size V w5:=(Below.refl _ _).drew.trans hX5;obtain⟨f5,f6,f7⟩:=HF.out w5 hS5;rw[Nat.zero_add,List.nil_append] at hO5)
   | (refine zce (base:=V.heap.size) (n:=0) (xs:=[]) rfl rfl z54 (World.ownsRow_nil _ _ _ _) (by simp [Act.eval,Act.put];done) (HROW.out _ (by first | exact zcf (Below.refl _ _).drew _ | exact (zcf (Below.refl _ _) _).drew)) (by simp [Act.eval,Act.put];done) HONE.out (by omega) (by unfold maxLen;omega) (Below.size (by first | exact zcf (Below.refl _ _).drew _ | exact (zcf (Below.refl _ _) _).drew)) ?_;intro A5 c5 w5 hO5 hG5 hw5;have hX5:=zm9 hG5 rfl;have hS5:Below V.heap.size V w5:=z0r (by first | exact zcf (Below.refl _ _).drew _ | exact (zcf (Below.refl _ _) _).drew) hX5;have hQ5:Blk w5 V.heap.size 44 [.string h.path,.int .i64 h.num,.string h.loc]:=Blk.below' (by first | exact z0l V.drew _ _ | exact Blk.drew' (z0l V _ _)) hX5;rw[Nat.zero_add,List.nil_append] at hO5)
   | (refine zce rfl rfl z54 (z0n hO5 ((Below.refl _ _).alloc (Nat.le_refl _) _)) (by simp [Act.eval,Act.put];done) (z0i w5 [.string h.path,.int .i64 h.num,.string h.loc] _ 3 1 rfl (by decide) _ rfl) (by simp [Act.eval,Act.put];done) (by simp [Value.oneCell']) (by omega) (by unfold maxLen;omega) (by have:=hS5.size;simp;omega) ?_;intro A6 c6 w6 hO6 hG6 hw6;have hS6:Below V.heap.size V w6:=(hS5.alloc hS5.size _).grown hG6 (hS5.alloc hS5.size _).size (fun k e=>(hO5.lt k e).1))
   | (refine zce rfl rfl z54 hO5 (by simp [Act.eval,Act.put];done) (hQ5.row (size:=3) (n:=1) rfl (by decide)) (by simp [Act.eval,Act.put];done) (by simp [Value.oneCell']) (by omega) (by unfold maxLen;omega) hS5.size ?_;intro A6 c6 w6 hO6 hG6 hw6;have hS6:Below V.heap.size V w6:=hS5.grown hG6 hS5.size (fun k e=>(hO5.lt k e).1)))
 all_goals exact NoPanic.normal (HQ.out _ _ _ _ _ _ _ _ _ _ (hd_ ⟨hS6,by rw[← HCAT.out];exact hO6⟩))
def SbV:Value→Bool
 | .string _=>true
 | .bool _=>true
 | _=>false
def zos (w:World)(g:Nat):Prop:=∀(off:Nat) u,w.cell? ⟨g,off,none⟩=some u→SbV u=false
theorem zot {w:World}{ad:Addr}{u:Value}(h:w.cell? ad=some u):w.cell? ⟨ad.block,ad.off,none⟩=some u:=by
 obtain⟨b,o,s⟩:=ad;cases s with
 | none=>exact h
 | some k =>
  unfold World.cell? at h
  split at h
  ·simp at h
  ·cases h
theorem Row.keptN {S:List Nat}{w w':World}{size n:Nat}{v:Value}{xs:List Value}(h:Row w size v n xs)(hK:z6t S w w')(hS:∀ g∈S,zos w g)(hx:0<n→∃(j:Nat) (u:Value),xs[j]? = some u∧SbV u=true):Row w' size v n xs:=by
 obtain⟨A,c,rfl,hc,hm,hl,h0,hr⟩:=id h;rcases Nat.eq_zero_or_pos n with hn | hn
 ·exact⟨A,c,rfl,hc,hm,hl,h0,fun hp=>by omega⟩
 ·obtain⟨ad,rfl,hb,hcell⟩:=hr hn;refine Row.kept h hK fun hmem=>?_;obtain⟨j,u,hj,hu⟩:=hx hn;have h1:=zot (hcell j u hj);rw[z00] at h1;rw[hS _ hmem _ _ h1] at hu;cases hu
theorem Strs.keptN {S:List Nat}{w w':World}{v:Value}{l:List ByteArray}(h:Strs w v l)(hK:z6t S w w')(hS:∀ g∈S,zos w g):Strs w' v l:=
 Row.keptN h hK hS fun hn=>⟨0,.string (l[0]'hn),by rw[List.getElem?_map,List.getElem?_eq_getElem hn];rfl,rfl⟩
theorem za9.keptN {S:List Nat}{w w':World}{v:Value}{p:Pat}(h:za9 w v p)(hK:z6t S w w')(hS:∀ g∈S,zos w g):za9 w' v p:=⟨h.1.keptN hK hS,h.2⟩
theorem zd2.keptN {S:List Nat}{w w':World}{v:Value}{hs:List zd1}(h:zd2 w v hs)(hK:z6t S w w')(hS:∀ g∈S,zos w g):zd2 w' v hs:=
 ⟨Row.keptN h.1 hK hS fun hn=>⟨1,.bool (hs[0]'hn).1.rest,by
  cases hs with
  | nil=>simp at hn
  | cons q hs=>rfl,rfl⟩,fun q hq=>(h.2 q hq).keptN hK hS⟩
theorem zdi.keptN {S:List Nat}{w w':World}{v:Value}{es:List zd8}(h:zdi w v es)(hK:z6t S w w')(hS:∀ g∈S,zos w g):zdi w' v es:=
 ⟨Row.keptN h.1 hK hS fun hn=>⟨1,.bool (es[0]'hn).l.1.rest,by
  cases es with
  | nil=>simp at hn
  | cons q hs=>rfl,rfl⟩,fun x hx=>⟨(h.2 x hx).l.keptN hK hS,(h.2 x hx).r.keptN hK hS,(h.2 x hx).h.keptN hK hS,(h.2 x hx).n⟩⟩
theorem z45.keptN {S:List Nat}{w w':World}{v:Value}{D:List Rev}(h:z45 w v D)(hK:z6t S w w')(hS:∀ g∈S,zos w g):z45 w' v D:=
 Row.keptN h hK hS fun hn=>⟨0,.string (D[0]'hn).path,by
  cases D with
  | nil=>simp at hn
  | cons q hs=>rfl,rfl⟩
theorem z4b.keptN {S:List Nat}{w w':World}{v:Value}{l:List Hav}(h:z4b w v l)(hK:z6t S w w')(hS:∀ g∈S,zos w g):z4b w' v l:=
 Row.keptN h hK hS fun hn=>⟨0,.string (l[0]'hn).path,by
  cases l with
  | nil=>simp at hn
  | cons q hs=>rfl,rfl⟩
theorem zos.blk {w:World}{g:Nat}{e:TypeId}{cs:List Value}(h:Blk w g e cs)(hc:∀ u∈cs,SbV u=false):zos w g:=fun off u hu=>by
 rw[h.cell off] at hu;exact hc u (List.mem_of_getElem? hu)
theorem zgf.nosb {w:World}{U g m:Nat}(h:zgf w U g m):∀ x∈[g],zos w x:=by
 obtain⟨l,A,c,a,h1,-⟩:=h;intro x hx;rw[List.mem_singleton] at hx;subst hx;exact zos.blk h1 (by simp [SbV])
end Go.Proofs.YtegeboijhifmcaaGreatDoor
