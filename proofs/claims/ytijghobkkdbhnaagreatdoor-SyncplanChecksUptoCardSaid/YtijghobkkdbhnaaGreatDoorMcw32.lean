/- A part. -/
import Derived.Test.YtijghobkkdbhnaaGreatDoorMcw30
import Derived.Test.YtijghobkkdbhnaaGreatDoorMcw31
set_option linter.unusedVariables false
set_option linter.unusedSimpArgs false
set_option maxHeartbeats 8000000
set_option maxRecDepth 100000
namespace Go.Proofs.YtijghobkkdbhnaaGreatDoor
open Go.Proofs.Tryz
open Go.RowKit
def Fresh (B:Nat)(v:Value):Prop:=∀ x,v.ownBlock=some x→B≤x
def zgq (w:World)(revs:List Rev)(p:ByteArray)(e:Ending)(w':World):Prop:=∃ A c,e=.returned (.slice A (zga revs p).length c)∧zB w w'∧z4c w' (.slice A (zga revs p).length c) (zga revs p)∧Fresh w.heap.size (.slice A (zga revs p).length c)
theorem zgr (revs:List Rev)(p:ByteArray)(dv dr:Value)(w:World)(hR:z4c w dv revs)(hl:revs.length≤1000000):
  Calls prog 78 #[.agg #[dv,dr],.string p] w (zgq w revs p):=by
 obtain⟨Ar,cr,rfl,hcr,hmr,-⟩:=id hR;have HR:=hd_ hR;clear hR;unfold maxLen at hmr;go_enter func78,ntmps78;have hB:=z0l w [.slice Ar revs.length cr,dr] 27;have hA:zB w (w.alloc (.cells #[.slice Ar revs.length cr,dr] 27)):=(Below.refl _ _).alloc (Nat.le_refl _) _;go_upto_region 2 with fail;generalize w.alloc (.cells #[.slice Ar revs.length cr,dr] 27)=W1 at hB hA ⊢;obtain⟨d0,-,-,-⟩:=box2 hB;have HA:=hd_ hA;clear hA hB;go_wp2_with fail;clear d0;go_loopw [5,11] (fun u s wr=>∃(k n:Nat) (A:Option Addr) (c:Nat),s=.int .i64 k∧u=.slice A n c∧k≤revs.length∧n≤k∧Hid (n=(zga (revs.take k) p).length∧zB W1 wr∧wr.ownsRow W1.heap.size 90 12 (.slice A n c) n ((zga (revs.take k) p).flatMap Rev.cells))) (fun _ s _=>revs.length - (intOf s).toNat)
 case atStart=>exact⟨0,0,none,0,rfl,rfl,Nat.zero_le _,Nat.le_refl _,rfl,Below.refl _ _,World.ownsRow_nil _ _ _ _⟩
 case round =>
  obtain⟨k,n,A,c,rfl,rfl,hk,hnk,HI⟩:=hrel;by_cases hlt:k<revs.length
  ·obtain⟨ad,rfl,hab,hld⟩:=z4c.at_ (HR.out.below (z0r HA.out HI.out.2.1)) hlt;have HT:=hd_ (zgg revs p k hlt);generalize revs[k]=r at hld HT;obtain⟨x0,x1,x2,x3,x4,x5,x6,x7,x8,x9,x10,x11⟩:=hld;have hX:=z0l wr [.string r.path,.int .i64 r.num,.int .i64 r.chg,.int .i64 r.act,.int .i64 r.ty.base,.bool r.ty.k,.bool r.ty.l,.bool r.ty.x,.int .u64 r.sum,.int .i64 r.size,.string r.frm,.int .i64 r.fnum] 90;have hA1:zB wr (wr.alloc (.cells #[.string r.path,.int .i64 r.num,.int .i64 r.chg,.int .i64 r.act,.int .i64 r.ty.base,.bool r.ty.k,.bool r.ty.l,.bool r.ty.x,.int .u64 r.sum,.int .i64 r.size,.string r.frm,.int .i64 r.fnum] 90)):=(Below.refl _ _).alloc (Nat.le_refl _) _;go_upto_region 5 with fail;clear x0 x1 x2 x3 x4 x5 x6 x7 x8 x9 x10 x11;generalize wr.alloc (.cells #[.string r.path,.int .i64 r.num,.int .i64 r.chg,.int .i64 r.act,.int .i64 r.ty.base,.bool r.ty.k,.bool r.ty.l,.bool r.ty.x,.int .u64 r.sum,.int .i64 r.size,.string r.frm,.int .i64 r.fnum] 90)=V1 at hX hA1 ⊢;obtain⟨y0,y1,y2,y3,y4,y5,y6,y7,y8,y9,y10,y11⟩:=z81 hX;by_cases hp:r.path=p
   ·have q:=zdq r.path p;rw[decide_eq_true hp] at q;rw[if_pos hp] at HT;have HN:Hid (n=(zga (revs.take k) p).length∧zB W1 V1∧V1.ownsRow W1.heap.size 90 12 (.slice A n c) n ((zga (revs.take k) p).flatMap Rev.cells)):=hd_ ⟨HI.out.1,z0r HI.out.2.1 hA1,z0n HI.out.2.2 hA1⟩;clear hX hA1 hp;go_wp2_with (at_builtin;refine z0k rfl rfl zge ((z0n HN.out.2.2 ((Below.refl _ _).alloc (Nat.le_refl _) _))) rfl (z0i V1 [.string r.path,.int .i64 r.num,.int .i64 r.chg,.int .i64 r.act,.int .i64 r.ty.base,.bool r.ty.k,.bool r.ty.l,.bool r.ty.x,.int .u64 r.sum,.int .i64 r.size,.string r.frm,.int .i64 r.fnum] _ 12 1 rfl (by decide) _ rfl) rfl (HN.out.2.1.alloc HN.out.2.1.size _) (HN.out.2.1.alloc HN.out.2.1.size _).size (zgi r) (by omega) (by unfold maxLen;omega) ?_;intro A' c' w2 hown2 hbl2)
    have HO2:=hd_ hown2;have HB2:=hd_ hbl2;clear y0 y1 y2 y3 y4 y5 y6 y7 y8 y9 y10 y11 hown2 hbl2;go_wp2_with fail;go_roundw
    case rel =>
     refine⟨k+1,n+1,A',c',by go_num,rfl,by omega,by omega,?_,HB2.out,?_⟩
     ·rw[HT.out,List.length_append,List.length_singleton,← HN.out.1]
     ·rw[HT.out,List.flatMap_append,List.flatMap_cons,List.flatMap_nil,List.append_nil];exact HO2.out
    case measure=>simp [intOf];omega
   ·have q:=zdq r.path p;rw[decide_eq_false hp] at q;rw[if_neg hp,List.append_nil] at HT;have HN:Hid (n=(zga (revs.take (k+1)) p).length∧zB W1 V1∧V1.ownsRow W1.heap.size 90 12 (.slice A n c) n ((zga (revs.take (k+1)) p).flatMap Rev.cells)):=hd_ (by rw[HT.out];exact⟨HI.out.1,z0r HI.out.2.1 hA1,z0n HI.out.2.2 hA1⟩)
    clear hX hA1 hp HT;go_wp2_with fail;go_roundw
    case rel=>exact⟨k+1,n,A,c,by go_num,rfl,by omega,by omega,HN.out⟩
    case measure=>simp [intOf];omega
  ·have hke:k=revs.length:=by omega
   have HF:Hid (n=(zga revs p).length∧zB W1 wr∧wr.ownsRow W1.heap.size 90 12 (.slice A n c) n ((zga revs p).flatMap Rev.cells)):=hd_ (by
    have:=HI.out;rwa [hke,List.take_length] at this)
   clear HI hke;go_wp2_with fail;go_ret;obtain⟨hn,h1,h2⟩:=HF.out;subst hn;exact⟨A,c,rfl,z0r HA.out h1,Row.of_own h2,fun x e=>Nat.le_trans HA.out.size (h2.lt x e).1⟩
structure AtSt (w wr:World)(g:Nat)(m:Int)(A:Option Addr)(c:Nat)(L:List Rev)(k:Nat):Prop where
 bel:zB w wr
 box1:Blk wr (g+1) 90 [.string ⟨#[]⟩,.int .i64 0,.int .i64 0,.int .i64 0,.int .i64 0,.bool false,.bool false,.bool false,.int .u64 0,.int .i64 0,.string ⟨#[]⟩,.int .i64 0]
 box2:Blk wr (g+1+1) 90 [.string (((L.take k).foldl (atM m) z2r)).path,.int .i64 (((L.take k).foldl (atM m) z2r)).num,.int .i64 (((L.take k).foldl (atM m) z2r)).chg,.int .i64 (((L.take k).foldl (atM m) z2r)).act,.int .i64 (((L.take k).foldl (atM m) z2r)).ty.base,.bool (((L.take k).foldl (atM m) z2r)).ty.k,.bool (((L.take k).foldl (atM m) z2r)).ty.l,.bool (((L.take k).foldl (atM m) z2r)).ty.x,.int .u64 (((L.take k).foldl (atM m) z2r)).sum,.int .i64 (((L.take k).foldl (atM m) z2r)).size,.string (((L.take k).foldl (atM m) z2r)).frm,.int .i64 (((L.take k).foldl (atM m) z2r)).fnum]
 row:z4c wr (.slice A L.length c) L
theorem AtSt.under {w wr X:World}{g:Nat}{m:Int}{A:Option Addr}{c:Nat}{L:List Rev}{k:Nat}(h:AtSt w wr g m A c L k)(hX:zB wr X):AtSt w X g m A c L k:=
 ⟨z0r h.bel hX,h.box1.below' hX,h.box2.below' hX,h.row.below hX⟩
theorem row12 {w:World}{g size n:Nat}{v:Value}{xs:List Value}(h:Row w size v n xs)(hne:v.ownBlock≠some g)(r:Rev):Row ((((((((((((w.setCell ⟨g,0,none⟩ (.string r.path)).setCell ⟨g,1,none⟩ (.int .i64 r.num)).setCell ⟨g,2,none⟩ (.int .i64 r.chg)).setCell ⟨g,3,none⟩ (.int .i64 r.act)).setCell ⟨g,4,none⟩ (.int .i64 r.ty.base)).setCell ⟨g,5,none⟩ (.bool r.ty.k)).setCell ⟨g,6,none⟩ (.bool r.ty.l)).setCell ⟨g,7,none⟩ (.bool r.ty.x)).setCell ⟨g,8,none⟩ (.int .u64 r.sum)).setCell ⟨g,9,none⟩ (.int .i64 r.size)).setCell ⟨g,10,none⟩ (.string r.frm)).setCell ⟨g,11,none⟩ (.int .i64 r.fnum)) size v n xs:=by
 repeat (refine Row.set_far ?_ hne)
 exact h
theorem at_next (m:Int)(L:List Rev)(k:Nat)(h:k<L.length):(L.take (k+1)).foldl (atM m) z2r=atM m ((L.take k).foldl (atM m) z2r) L[k]:=by
 rw[List.take_succ_eq_append_getElem h,List.foldl_append];rfl
theorem zgs (revs:List Rev)(p:ByteArray)(m:Int)(dv dr:Value)(w:World)(hR:z4c w dv revs)(hl:revs.length≤1000000):
  Calls prog 37 #[.agg #[dv,dr],.string p,.int .i64 m] w fun e w'=>e=.returned (.tuple #[.agg #[.string ((rAt revs p m)).path,.int .i64 ((rAt revs p m)).num,.int .i64 ((rAt revs p m)).chg,.int .i64 ((rAt revs p m)).act,.int .i64 ((rAt revs p m)).ty.base,.bool ((rAt revs p m)).ty.k,.bool ((rAt revs p m)).ty.l,.bool ((rAt revs p m)).ty.x,.int .u64 ((rAt revs p m)).sum,.int .i64 ((rAt revs p m)).size,.string ((rAt revs p m)).frm,.int .i64 ((rAt revs p m)).fnum],.bool (decide (0<(rAt revs p m).num))])∧zB w w':=by
 obtain⟨Ar,cr,rfl,-⟩:=id hR;have HR:=hd_ hR;clear hR;have HLN:=hd_ (zgh revs p);go_enter func37,ntmps37;have hb0:zB w (((w.alloc (.cells #[.slice Ar revs.length cr,dr] 27)).alloc (.cells #[.string ⟨#[]⟩,.int .i64 0,.int .i64 0,.int .i64 0,.int .i64 0,.bool false,.bool false,.bool false,.int .u64 0,.int .i64 0,.string ⟨#[]⟩,.int .i64 0] 90)).alloc (.cells #[.string ⟨#[]⟩,.int .i64 0,.int .i64 0,.int .i64 0,.int .i64 0,.bool false,.bool false,.bool false,.int .u64 0,.int .i64 0,.string ⟨#[]⟩,.int .i64 0] 90)):=(((Below.refl _ _).alloc (Nat.le_refl _) _).alloc (by simp) _).alloc (by simp;omega) _
 have hB:Blk (((w.alloc (.cells #[.slice Ar revs.length cr,dr] 27)).alloc (.cells #[.string ⟨#[]⟩,.int .i64 0,.int .i64 0,.int .i64 0,.int .i64 0,.bool false,.bool false,.bool false,.int .u64 0,.int .i64 0,.string ⟨#[]⟩,.int .i64 0] 90)).alloc (.cells #[.string ⟨#[]⟩,.int .i64 0,.int .i64 0,.int .i64 0,.int .i64 0,.bool false,.bool false,.bool false,.int .u64 0,.int .i64 0,.string ⟨#[]⟩,.int .i64 0] 90)) w.heap.size 27 [.slice Ar revs.length cr,dr]:=((z0l w _ _).alloc _).alloc _;have hZ:Blk (((w.alloc (.cells #[.slice Ar revs.length cr,dr] 27)).alloc (.cells #[.string ⟨#[]⟩,.int .i64 0,.int .i64 0,.int .i64 0,.int .i64 0,.bool false,.bool false,.bool false,.int .u64 0,.int .i64 0,.string ⟨#[]⟩,.int .i64 0] 90)).alloc (.cells #[.string ⟨#[]⟩,.int .i64 0,.int .i64 0,.int .i64 0,.int .i64 0,.bool false,.bool false,.bool false,.int .u64 0,.int .i64 0,.string ⟨#[]⟩,.int .i64 0] 90)) (w.heap.size+1) 90 [.string ⟨#[]⟩,.int .i64 0,.int .i64 0,.int .i64 0,.int .i64 0,.bool false,.bool false,.bool false,.int .u64 0,.int .i64 0,.string ⟨#[]⟩,.int .i64 0]:=by
  have h1:=(z0l (w.alloc (.cells #[.slice Ar revs.length cr,dr] 27)) [.string ⟨#[]⟩,.int .i64 0,.int .i64 0,.int .i64 0,.int .i64 0,.bool false,.bool false,.bool false,.int .u64 0,.int .i64 0,.string ⟨#[]⟩,.int .i64 0] 90).alloc (.cells #[.string ⟨#[]⟩,.int .i64 0,.int .i64 0,.int .i64 0,.int .i64 0,.bool false,.bool false,.bool false,.int .u64 0,.int .i64 0,.string ⟨#[]⟩,.int .i64 0] 90);simp only[World.size_alloc] at h1
  exact h1
 have hY:Blk (((w.alloc (.cells #[.slice Ar revs.length cr,dr] 27)).alloc (.cells #[.string ⟨#[]⟩,.int .i64 0,.int .i64 0,.int .i64 0,.int .i64 0,.bool false,.bool false,.bool false,.int .u64 0,.int .i64 0,.string ⟨#[]⟩,.int .i64 0] 90)).alloc (.cells #[.string ⟨#[]⟩,.int .i64 0,.int .i64 0,.int .i64 0,.int .i64 0,.bool false,.bool false,.bool false,.int .u64 0,.int .i64 0,.string ⟨#[]⟩,.int .i64 0] 90)) (w.heap.size+1+1) 90 [.string ⟨#[]⟩,.int .i64 0,.int .i64 0,.int .i64 0,.int .i64 0,.bool false,.bool false,.bool false,.int .u64 0,.int .i64 0,.string ⟨#[]⟩,.int .i64 0]:=by
  have h1:=z0l ((w.alloc (.cells #[.slice Ar revs.length cr,dr] 27)).alloc (.cells #[.string ⟨#[]⟩,.int .i64 0,.int .i64 0,.int .i64 0,.int .i64 0,.bool false,.bool false,.bool false,.int .u64 0,.int .i64 0,.string ⟨#[]⟩,.int .i64 0] 90)) [.string ⟨#[]⟩,.int .i64 0,.int .i64 0,.int .i64 0,.int .i64 0,.bool false,.bool false,.bool false,.int .u64 0,.int .i64 0,.string ⟨#[]⟩,.int .i64 0] 90;simp only[World.size_alloc] at h1
  exact h1
 go_upto_region 2 with fail;generalize ((w.alloc (.cells #[.slice Ar revs.length cr,dr] 27)).alloc (.cells #[.string ⟨#[]⟩,.int .i64 0,.int .i64 0,.int .i64 0,.int .i64 0,.bool false,.bool false,.bool false,.int .u64 0,.int .i64 0,.string ⟨#[]⟩,.int .i64 0] 90)).alloc (.cells #[.string ⟨#[]⟩,.int .i64 0,.int .i64 0,.int .i64 0,.int .i64 0,.bool false,.bool false,.bool false,.int .u64 0,.int .i64 0,.string ⟨#[]⟩,.int .i64 0] 90)=W1 at hb0 hB hZ hY ⊢;obtain⟨d0,d1,-,-⟩:=box2 hB;have HL:=hd_ (zgr revs p (.slice Ar revs.length cr) dr W1 (HR.out.below hb0) hl);have Hb0:=hd_ hb0;have HZ:=hd_ hZ;have HY:=hd_ hY;clear hb0 hZ hB hY;go_wp2_with fail;refine HL.out.mono ?_;rintro e w2 ⟨A,c,rfl,hb2,hL,hf⟩;clear d0 d1;have HAT:Hid (rAt revs p m=(zga revs p).foldl (atM m) z2r):=hd_ rfl;have hll:(zga revs p).length≤revs.length:=HLN.out;generalize zga revs p=L at hL hll hf HAT ⊢;obtain⟨A',c',e',hcc,hmm,-⟩:=id hL;injection e' with e1 e2 e3
 subst e1 e3;unfold maxLen at hmm;have hlt2:=HY.out.lt;have HNE:Hid ((Value.slice A L.length c).ownBlock≠some (w.heap.size+1+1)):=hd_ (fun e=>by have:=hf _ e;omega)
 have HST:Hid (AtSt w w2 w.heap.size m A c L 0):=hd_ ⟨z0r Hb0.out hb2,HZ.out.below' hb2,by rw[List.take_zero];exact HY.out.below' hb2,hL⟩
 clear hb2 hL hf HL e2 hlt2;go_wp2_with fail;go_loopw [15] (fun s wr=>∃ k:Nat,s=.int .i64 k∧k≤L.length∧Hid (AtSt w wr w.heap.size m A c L k)) (fun s _=>L.length - (intOf s).toNat)
 case atStart=>exact⟨0,rfl,Nat.zero_le _,HST.out⟩
 case round =>
  obtain⟨k,rfl,hk,HI⟩:=hrel;by_cases hlt:k<L.length
  ·obtain⟨ad,rfl,hab,hld⟩:=z4c.at_ HI.out.row hlt;have HN:=hd_ (at_next m L k hlt);generalize L[k]=r at hld HN;obtain⟨x0,x1,x2,x3,x4,x5,x6,x7,x8,x9,x10,x11⟩:=hld;have hX:=z0l wr [.string r.path,.int .i64 r.num,.int .i64 r.chg,.int .i64 r.act,.int .i64 r.ty.base,.bool r.ty.k,.bool r.ty.l,.bool r.ty.x,.int .u64 r.sum,.int .i64 r.size,.string r.frm,.int .i64 r.fnum] 90;have hA1:zB wr (wr.alloc (.cells #[.string r.path,.int .i64 r.num,.int .i64 r.chg,.int .i64 r.act,.int .i64 r.ty.base,.bool r.ty.k,.bool r.ty.l,.bool r.ty.x,.int .u64 r.sum,.int .i64 r.size,.string r.frm,.int .i64 r.fnum] 90)):=(Below.refl _ _).alloc (Nat.le_refl _) _;have HS1:=hd_ (HI.out.under hA1);go_upto_region 5 with fail;clear x0 x1 x2 x3 x4 x5 x6 x7 x8 x9 x10 x11;generalize wr.alloc (.cells #[.string r.path,.int .i64 r.num,.int .i64 r.chg,.int .i64 r.act,.int .i64 r.ty.base,.bool r.ty.k,.bool r.ty.l,.bool r.ty.x,.int .u64 r.sum,.int .i64 r.size,.string r.frm,.int .i64 r.fnum] 90)=V1 at hX hA1 HS1 ⊢;obtain⟨x0,x1,x2,x3,x4,x5,x6,x7,x8,x9,x10,x11⟩:=z81 hX;clear hX hA1;by_cases hc:r.chg≤m
   ·have q:decide (r.chg≤m)=true:=by simpa using hc
    have HE:Hid ((L.take (k+1)).foldl (atM m) z2r=r):=hd_ (by rw[HN.out];unfold atM;rw[if_pos hc])
    obtain⟨y0,y1,y2,y3,y4,y5,y6,y7,y8,y9,y10,y11⟩:=zdi HS1.out.box2;obtain⟨z0,z1,z2,z3,z4,z5,z6,z7,z8,z9,z10,z11⟩:=z81 HS1.out.box2;clear hc;go_wp2_with fail;go_roundw
    case rel =>
     refine⟨k+1,by go_num,by omega,zdk HS1.out.bel (show w.heap.size≤w.heap.size+1+1 by omega) r,far12 HS1.out.box1 (by omega) r,?_,row12 HS1.out.row HNE.out r⟩
     rw[HE.out];exact zdj HS1.out.box2 r
    case measure=>simp [intOf];omega
   ·have q:decide (r.chg≤m)=false:=by simpa using hc
    have HE:Hid ((L.take (k+1)).foldl (atM m) z2r=(L.take k).foldl (atM m) z2r):=hd_ (by rw[HN.out];unfold atM;rw[if_neg hc])
    clear hc;go_wp2_with fail;go_roundw
    case rel=>exact⟨k+1,by go_num,by omega,HS1.out.bel,HS1.out.box1,by rw[HE.out];exact HS1.out.box2,HS1.out.row⟩
    case measure=>simp [intOf];omega
  ·have hke:k=L.length:=by omega
   obtain⟨r,hr⟩:∃ r,(L.take k).foldl (atM m) z2r=r:=⟨_,rfl⟩;have HAR:Hid (rAt revs p m=r):=hd_ (by rw[HAT.out,← hr,hke,List.take_length])
   have hB2:=HI.out.box2;rw[hr] at hB2;obtain⟨x0,x1,x2,x3,x4,x5,x6,x7,x8,x9,x10,x11⟩:=z81 hB2;obtain⟨y0,y1,y2,y3,y4,y5,y6,y7,y8,y9,y10,y11⟩:=zdi HI.out.box1;obtain⟨z0,z1,z2,z3,z4,z5,z6,z7,z8,z9,z10,z11⟩:=z81 HI.out.box1;have hZ9:=zdj HI.out.box1 r;have hB9:=zdk HI.out.bel (show w.heap.size≤w.heap.size+1 by omega) r
   clear hke hr hB2;go_upto_region 8 with fail;refine wp_region_noPanic ?_;go_region_law (fail)
   all_goals
    refine NoPanic.normal ?_;go_wp2_with fail;have hZ8:=Blk.drew' hZ9;have hB8:=hB9.drew;generalize (((((((((((((wr.setCell ⟨w.heap.size+1,0,none⟩ (.string r.path)).setCell ⟨w.heap.size+1,1,none⟩ (.int .i64 r.num)).setCell ⟨w.heap.size+1,2,none⟩ (.int .i64 r.chg)).setCell ⟨w.heap.size+1,3,none⟩ (.int .i64 r.act)).setCell ⟨w.heap.size+1,4,none⟩ (.int .i64 r.ty.base)).setCell ⟨w.heap.size+1,5,none⟩ (.bool r.ty.k)).setCell ⟨w.heap.size+1,6,none⟩ (.bool r.ty.l)).setCell ⟨w.heap.size+1,7,none⟩ (.bool r.ty.x)).setCell ⟨w.heap.size+1,8,none⟩ (.int .u64 r.sum)).setCell ⟨w.heap.size+1,9,none⟩ (.int .i64 r.size)).setCell ⟨w.heap.size+1,10,none⟩ (.string r.frm)).setCell ⟨w.heap.size+1,11,none⟩ (.int .i64 r.fnum))).drew=W9 at hZ8 hB8 ⊢;obtain⟨e0,e1,e2,e3,e4,e5,e6,e7,e8,e9,e10,e11⟩:=z81 hZ8;exact bodyPost_ret (v:=.tuple #[.agg #[.string r.path,.int .i64 r.num,.int .i64 r.chg,.int .i64 r.act,.int .i64 r.ty.base,.bool r.ty.k,.bool r.ty.l,.bool r.ty.x,.int .u64 r.sum,.int .i64 r.size,.string r.frm,.int .i64 r.fnum],.bool (decide (0<r.num))]) (by simp [results,results37,go_sem,Act.put,e0,e1,e2,e3,e4,e5,e6,e7,e8,e9,e10,e11]) rfl ⟨by rw[HAR.out],hB8⟩
theorem rcT9 (T:Code)(hT:Tryz.f7.body.bind (zhg 9)=some T)(P:Ending→World→Prop)(W:World)(A:Option Addr)(c:Nat)(es:List zcv)(hE:zd1 W (.slice A es.length c) es)(hl:es.length≤32)
  (hR:∀ x∈es,∀ X,zB W X→Calls prog 31 #[x.val] X (znd X x.r.v x.r.1.rest))
  (hT16:∀ T',Tryz.f7.body.bind (zhg 16)=some T'→∀ W',zB W W'→∀(u1 u2 u3 u4 u5 u6 u7 u8 u9 gA gC gD gE gF gG gH gI gJ gK gL gM gN gO gP gQ gR gT gV gW gX gY gZ i6 i7 i8 ia ib ic ie ig ii ij ik il im io ip iq ir iu iv iw ix iy iz iA iB iC iD iE iF iG iH iI iJ iK iL iM iN iO iP iQ iR iS iT iU iV iW iX iY iZ j0 j1 j2 j5 j6 j7 j8 j9 jb jd:Value),T'.wp prog (bodyPost prog Tryz.f7 P) ⟨#[.slice A es.length c,u1,u2,u3,u4,u5,u6,u7,u8,u9,gA,gC,gD,gE,gF,gG,gH,gI,gJ,gK,gL,gM,gN,gO,gP,gQ,gR,gT,gV,gW,gX,gY,gZ,i6,i7,i8,ia,ib,ic,ie,ig,ii,ij,ik,il,im,io,ip,iq,ir,iu,iv,iw,ix,iy,iz,iA,iB,iC,iD,iE,iF,iG,iH,iI,iJ,iK,iL,iM,iN,iO,iP,iQ,iR,iS,iT,iU,iV,iW,iX,iY,iZ,j0,j1,j2,j5,j6,j7,j8,j9,jb,jd],[]⟩ W')
  (u1 u2 u3 u4 u5 u6 u7 u8 u9 gA gC gD gE gF gG gH gI gJ gK gL gM gN gO gP gQ gR gT gV gW gX gY gZ i6 i7 i8 ia ib ic ie ig ii ij ik il im io ip iq ir iu iv iw ix iy iz iA iB iC iD iE iF iG iH iI iJ iK iL iM iN iO iP iQ iR iS iT iU iV iW iX iY iZ j0 j1 j2 j5 j6 j7 j8 j9 jb jd:Value):
  T.wp prog (bodyPost prog Tryz.f7 P) ⟨#[.slice A es.length c,u1,u2,u3,u4,u5,u6,u7,u8,u9,gA,gC,gD,gE,gF,gG,gH,gI,gJ,gK,gL,gM,gN,gO,gP,gQ,gR,gT,gV,gW,gX,gY,gZ,i6,i7,i8,ia,ib,ic,ie,ig,ii,ij,ik,il,im,io,ip,iq,ir,iu,iv,iw,ix,iy,iz,iA,iB,iC,iD,iE,iF,iG,iH,iI,iJ,iK,iL,iM,iN,iO,iP,iQ,iR,iS,iT,iU,iV,iW,iX,iY,iZ,j0,j1,j2,j5,j6,j7,j8,j9,jb,jd],[]⟩ W:=by
 simp only[Tryz.f7,Option.bind_some,zhg,zhf] at hT
 simp at hT
 subst hT;have HE:=hd_ (fun X (hX:zB W X)=>hE.below hX);have HR:=hd_ hR;have HT:=hd_ hT16;clear hE hR hT16;go_wp2_with fail;go_loopw [42] (fun i wr=>∃ k:Nat,i=.int .i64 k∧k≤es.length∧Hid (zB W wr)) (fun i _=>es.length - (intOf i).toNat)
 case atStart=>exact⟨0,rfl,Nat.zero_le _,hd_ (Below.refl _ _)⟩
 case round =>
  obtain⟨k,rfl,hk,HI⟩:=hrel;by_cases hlt:k<es.length
  ·have HEX:=hd_ (HE.out wr HI.out);obtain⟨ad,rfl,hab,s0,s1,s2,s3,s4⟩:=HEX.out.at_ hlt;have HXI:=hd_ (HEX.out.2 es[k] (List.getElem_mem hlt));have HXR:=hd_ (HR.out es[k] (List.getElem_mem hlt));generalize es[k]=x at s0 s1 s2 s3 s4 HXI HXR;obtain⟨H,hc,hhv⟩:=HXI.out.holes;obtain⟨⟨pl,Al,cl⟩,⟨pr,Ar,cr⟩,hv,hs⟩:=x;change hv=.slice H hs.length hc at hhv;subst hhv;change wr.cell? _=some (.slice Al pl.parts.length cl) at s0;change wr.cell? _=some (.bool pl.rest) at s1;change wr.cell? _=some (.slice Ar pr.parts.length cr) at s2;change wr.cell? _=some (.bool pr.rest) at s3;change wr.cell? _=some (.slice H hs.length hc) at s4;have hX:zB wr (wr.alloc (.cells #[.slice Al pl.parts.length cl,.bool pl.rest,.slice Ar pr.parts.length cr,.bool pr.rest,.slice H hs.length hc] 71)):=(Below.refl _ _).alloc (Nat.le_refl _) _;have HX:=hd_ (z0r HI.out hX);have HN:Hid (Blk (wr.alloc (.cells #[.slice Al pl.parts.length cl,.bool pl.rest,.slice Ar pr.parts.length cr,.bool pr.rest,.slice H hs.length hc] 71)) wr.heap.size 71 [.slice Al pl.parts.length cl,.bool pl.rest,.slice Ar pr.parts.length cr,.bool pr.rest,.slice H hs.length hc]):=hd_ (z0l wr _ _);have HLT:=hd_ hlt;clear hab hX;go_upto_region 12 with fail;generalize wr.alloc (.cells #[.slice Al pl.parts.length cl,.bool pl.rest,.slice Ar pr.parts.length cr,.bool pr.rest,.slice H hs.length hc] 71)=W4 at HX HN ⊢;generalize wr.heap.size=g7 at HN ⊢;clear s0 s1 s2 s3 s4;obtain⟨x0,x1,x2,x3,x4⟩:=(⟨HN.out.cell 0,HN.out.cell 1,HN.out.cell 2,HN.out.cell 3,HN.out.cell 4⟩:W4.cell? ⟨g7,0,none⟩=some (.slice Al pl.parts.length cl)∧W4.cell? ⟨g7,1,none⟩=some (.bool pl.rest)∧W4.cell? ⟨g7,2,none⟩=some (.slice Ar pr.parts.length cr)∧W4.cell? ⟨g7,3,none⟩=some (.bool pr.rest)∧W4.cell? ⟨g7,4,none⟩=some (.slice H hs.length hc));have HRC:Hid (Calls prog 31 #[.agg #[.slice Al pl.parts.length cl,.bool pl.rest,.slice Ar pr.parts.length cr,.bool pr.rest,.slice H hs.length hc]] W4 (znd W4 (.slice Ar pr.parts.length cr) pr.rest)):=hd_ (HXR.out W4 HX.out);go_wp2_with fail
   refine HRC.out.mono ?_;rintro e w5 ⟨hb,H9,n9,c9,rfl⟩;dsimp only;have hX:zB w5 (w5.alloc (.cells #[.slice Ar pr.parts.length cr,.bool pr.rest,.slice H9 n9 c9] 78)):=(Below.refl _ _).alloc (Nat.le_refl _) _;have HB:=hd_ (z0r HX.out (z0r hb hX));clear hb hX x0 x1 x2 x3 x4 HRC;go_wp2_with fail;go_roundw
   case rel=>exact⟨k+1,by go_num,by omega,HB⟩
   case measure=>simp [intOf];omega
  ·have hke:k=es.length:=by omega
   subst hke;have HB:=hd_ HI.out;have hge:¬((es.length:Int)<(es.length:Int)):=by omega
   rename ∀ a w,Code.wp _ (Code.seq (Code.seq (Code.region 16 _ _) _) _) _ a w→_=>hk7
   have HK7:=hd_ hk7;clear hk7 HI;go_wp2_with fail;exact HK7.out _ _ (HT.out _ (by kernel_rfl) wr HB.out _ _ _ _ _ _ _ _ _ _ _ _ _ _ _ _ _ _ _ _ _ _ _ _ _ _ _ _ _ _ _ _ _ _ _ _ _ _ _ _ _ _ _ _ _ _ _ _ _ _ _ _ _ _ _ _ _ _ _ _ _ _ _ _ _ _ _ _ _ _ _ _ _ _ _ _ _ _ _ _ _ _ _ _ _ _ _ _ _ _ _)
theorem WsB.mono {w wr:World}{U g gw m m':Nat}{D:List Rev}{dv dr cv:Value}{l:List Cnk}(h:WsB w wr U g gw m D dv dr cv l)(hm:m≤m'):WsB w wr U g gw m' D dv dr cv l:=
 ⟨h.kept,h.tape.mono hm,h.box,h.cnk,h.revs,h.gU,h.UU,h.le,h.far⟩
structure EdK (D:List Rev)(i:Nat)(es:List Edt):Prop where
 six:∀ x∈es,∃(j:Nat) (hj:j<zf0.length),j<i∧zf0[j]=x.path
 nd:(es.map (·.path)).Nodup
 base:∀ x∈es,x.base=(zdv (zgd D x.path)).num
 len:es.length≤i
theorem zot:zf0.Nodup:=by decide
theorem edK_0 (D:List Rev):EdK D 0 []:=⟨(fun x h=>by cases h),List.nodup_nil,(fun x h=>by cases h),Nat.le_refl _⟩
theorem EdK.skip {D:List Rev}{i:Nat}{es:List Edt}(h:EdK D i es):EdK D (i+1) es:=
 ⟨fun x hx=>by obtain⟨j,hj,h1,h2⟩:=h.six x hx;exact⟨j,hj,by omega,h2⟩,h.nd,h.base,Nat.le_succ_of_le h.len⟩
theorem EdK.push {D:List Rev}{i:Nat}{es:List Edt}{x:Edt}(h:EdK D i es)(hi:i<zf0.length)(hx:x.path=zf0[i])(hb:x.base=(zdv (zgd D x.path)).num):EdK D (i+1) (es++[x]):=by
 refine⟨fun y hy=>?_,?_,fun y hy=>?_,by rw[List.length_append];exact Nat.succ_le_succ h.len⟩
 ·rcases List.mem_append.1 hy with hy | hy
  ·obtain⟨j,hj,h1,h2⟩:=h.six y hy;exact⟨j,hj,by omega,h2⟩
  ·rw[List.mem_singleton] at hy;subst hy;exact⟨i,hi,by omega,hx.symm⟩
 ·rw[List.map_append,List.nodup_append];refine⟨h.nd,by simp,fun a ha b hb e=>?_⟩
  obtain⟨y,hy,rfl⟩:=List.mem_map.1 ha;have hb':b=x.path:=by simpa using hb
  obtain⟨j,hj,h1,h2⟩:=h.six y hy;have e2:zf0[j]=zf0[i]:=by rw[h2,e,hb',hx]
  have:=(List.getElem_inj zot).1 e2;omega
 ·rcases List.mem_append.1 hy with hy | hy
  ·exact h.base y hy
  ·rw[List.mem_singleton] at hy;subst hy;exact hb
structure zou (w wr wx:World)(U g gw m:Nat)(D:List Rev)(dv dr cv0 cv:Value)(l:List Cnk)(g6 g7 gp B:Nat)(num:Int)(es:List Edt)(ev:Value):Prop where
 ws:WsB w wx U g gw m D dv dr cv l
 frm:Frm wr wx g gw cv0 cv
 b6:Blk wx g6 105 [.int .i64 0,.string ⟨#[]⟩,.string ⟨#[]⟩,.slice none 0 0,.slice none 0 0]
 b7:Blk wx g7 105 [.int .i64 num,.string ⟨#[]⟩,.string ⟨#[]⟩,ev,.slice none 0 0]
 bp:Blk wx gp 9 (zf0.map .string)
 own:wx.ownsRow B 100 12 ev es.length (es.flatMap Edt.cells)
 ord:wr.heap.size≤g6∧g6<g7∧g7<gp∧gp<B∧B≤wx.heap.size
 lo:w.heap.size≤wr.heap.size∧gw<wr.heap.size∧∀ x,dv.ownBlock=some x→x<wr.heap.size
theorem zov {w w':World}{B k n:Nat}{e:TypeId}{v:Value}{xs:List Value}(h:w.ownsRow B e k v n xs)(hk:∀ x,v.ownBlock=some x→w'.heap[x]? = w.heap[x]?):w'.ownsRow B e k v n xs:=by
 refine⟨h.1,?_⟩;rcases h.2 with e1 | ⟨g,cap,cur,e1,h1,h2,h3⟩
 ·exact .inl e1
 ·exact .inr ⟨g,cap,cur,e1,h1,(hk g (by rw[e1];rfl)).trans h2,h3⟩
theorem WsB.grownAt {w wr w':World}{U g gw m:Nat}{D:List Rev}{dv dr cv:Value}{l:List Cnk}{row:Option Nat}(h:WsB w wr U g gw m D dv dr cv l)(hg:wr.grownBy w' row)(hr:∀ k,row=some k→w.heap.size≤k∧k≠gw∧cv.ownBlock≠some k∧dv.ownBlock≠some k):WsB w w' U g gw m D dv dr cv l:=by
 have hK:z9s [g] w w':=h.kept.grown_own hg (fun k e=>(hr k e).1);have h1:=h.UU;refine⟨hK,h.tape.keep hg.size (fun x hx=>hg.block x (by have:=h.kept.size;omega) (fun e=>by have:=(hr x e.symm).1;omega)),h.box.grown hg (fun e=>(hr gw e.symm).2.1 rfl),zov h.cnk (fun x hx=>hg.block x (h.cnk.lt x hx).2 (fun e=>(hr x e.symm).2.2.1 hx)),Row.heap h.revs hg.size (fun x hx e=>hg.block x hx (fun e2=>(hr x e2.symm).2.2.2 e)),h.gU,h1,h.le,fun x hx=>⟨(h.far x hx).1,Nat.lt_of_lt_of_le (h.far x hx).2.1 hg.size,(h.far x hx).2.2⟩⟩
theorem Frm.grownAt {wr wx w':World}{g gw:Nat}{cv cv':Value}{row:Option Nat}(h:Frm wr wx g gw cv cv')(hg:wx.grownBy w' row)(hr:∀ k,row=some k→wr.heap.size≤k):Frm wr w' g gw cv cv':=
 ⟨hg.os.trans h.os,hg.tape.trans h.tape,hg.output.trans h.output,Nat.le_trans h.size hg.size,fun k hk h1 h2 h3=>(hg.block k (Nat.lt_of_lt_of_le hk h.size) (fun e=>by have:=hr k e.symm;omega)).trans (h.block k hk h1 h2 h3),h.ob⟩
theorem zow {w:World}{B1 B2 k1 k2 n1 n2 x:Nat}{e1 e2:TypeId}{v1 v2:Value}{xs ys:List Value}(h1:w.ownsRow B1 e1 k1 v1 n1 xs)(h2:w.ownsRow B2 e2 k2 v2 n2 ys)(he:e1≠e2)(hx:v1.ownBlock=some x):v2.ownBlock≠some x:=by
 intro hy;rcases h1.2 with⟨rfl,_⟩ | ⟨g,cap,cur,rfl,_,hg,_⟩
 ·cases hx
 ·rcases h2.2 with⟨rfl,_⟩ | ⟨g',cap',cur',rfl,_,hg',_⟩
  ·cases hy
  ·injection hx with hx
   injection hy with hy
   have e:g=g':=hx.trans hy.symm;subst e;rw[hg] at hg';injection hg' with hg'
   injection hg' with _ h2 _
   exact he h2
section
variable {w wr wx w' : World} {U g gw m m' g6 g7 gp B : Nat} {D : List Rev} {dv dr cv0 cv cv' ev : Value} {l l' : List Cnk} {num : Int} {es : List Edt}
theorem zou.step (h:zou w wr wx U g gw m D dv dr cv0 cv l g6 g7 gp B num es ev)(hF:Frm wx w' g gw cv cv')(hS:WsB w w' U g gw m' D dv dr cv' l'):zou w wr w' U g gw m' D dv dr cv0 cv' l' g6 g7 gp B num es ev:=by
 obtain⟨o1,o2,o3,o4,o5⟩:=h.ord;have h1:=h.ws.gU;have h2:=h.ws.UU;have h3:=h.ws.le;have h4:=h.ws.kept.size;have h5:=h.frm.size;have h6:=h.lo;refine⟨hS,h.frm.trans hF,hF.blk h.b6 (by omega) (by omega) (zk8 h.ws.cnk h.b6 (by decide)),hF.blk h.b7 (by omega) (by omega) (zk8 h.ws.cnk h.b7 (by decide)),hF.blk h.bp (by omega) (by omega) (zk8 h.ws.cnk h.bp (by decide)),?_,⟨o1,o2,o3,o4,Nat.le_trans o5 hF.size⟩,h.lo⟩
 refine zov h.own fun x hx=>?_;have hlt:=h.own.lt x hx;exact hF.block x hlt.2 (by omega) (by omega) (zow h.own h.ws.cnk (by decide) hx)
theorem zou.next (h:zou w wr wx U g gw m D dv dr cv0 cv l g6 g7 gp B num es ev)(hK:z9s [g] wx w')(hT:zg0 w' U g m'):zou w wr w' U g gw m' D dv dr cv0 cv l g6 g7 gp B num es ev:=h.step (Frm.of_kept hK) (h.ws.next hK hT)
theorem zou.under (h:zou w wr wx U g gw m D dv dr cv0 cv l g6 g7 gp B num es ev)(hb:zB wx w'):zou w wr w' U g gw m D dv dr cv0 cv l g6 g7 gp B num es ev:=h.next (z9s.below hb) (h.ws.tape.below hb)
theorem zou.grownAt {row:Option Nat}(h:zou w wr wx U g gw m D dv dr cv0 cv l g6 g7 gp B num es ev)(hg:wx.grownBy w' row)(hr:∀ k,row=some k→B≤k∧cv.ownBlock≠some k∧ev.ownBlock≠some k):zou w wr w' U g gw m D dv dr cv0 cv l g6 g7 gp B num es ev:=by
 obtain⟨o1,o2,o3,o4,o5⟩:=h.ord;obtain⟨l1,l2,l3⟩:=h.lo;have hn:∀ k,k<B→some k≠row:=fun k hk e=>by have:=(hr k e.symm).1;omega
 exact⟨h.ws.grownAt hg (fun k e=>⟨by have:=(hr k e).1;omega,by have:=(hr k e).1;omega,(hr k e).2.1,fun e2=>by have:=l3 k e2;have:=(hr k e).1;omega⟩),h.frm.grownAt hg (fun k e=>by have:=(hr k e).1;omega),h.b6.grown hg (hn g6 (by omega)),h.b7.grown hg (hn g7 (by omega)),h.bp.grown hg (hn gp (by omega)),zov h.own (fun x hx=>hg.block x (h.own.lt x hx).2 (fun e=>(hr x e.symm).2.2 hx)),⟨o1,o2,o3,o4,Nat.le_trans o5 hg.size⟩,h.lo⟩
theorem zou.push {w5:World}{ev':Value}{es':List Edt}(h:zou w wr wx U g gw m D dv dr cv0 cv l g6 g7 gp B num es ev)(hg:wx.grownBy w5 ev.ownBlock)(ho:w5.ownsRow B 100 12 ev' es'.length (es'.flatMap Edt.cells)):
  (w5.cell? ⟨g7,3,none⟩=some ev∧w5.frozen? ⟨g7,3,none⟩=false)∧zou w wr (w5.setCell ⟨g7,3,none⟩ ev') U g gw m D dv dr cv0 cv l g6 g7 gp B num es' ev':=by
 obtain⟨o1,o2,o3,o4,o5⟩:=h.ord;obtain⟨l1,l2,l3⟩:=h.lo;have hlt:=h.own.lt;have hn:∀ k,k<B→some k≠ev.ownBlock:=fun k hk e=>by have:=(hlt k e.symm).1;omega
 have hws:=h.ws.grownAt hg (fun k e=>⟨by have:=(hlt k e).1;omega,by have:=(hlt k e).1;omega,zow h.own h.ws.cnk (by decide) e,fun e2=>by have:=l3 k e2;have:=(hlt k e).1;omega⟩)
 have hfr:=h.frm.grownAt hg (fun k e=>by have:=(hlt k e).1;omega)
 have hb7:=h.b7.grown hg (hn g7 (by omega))
 have hg2:=z9t w5 g7 3 ev';have hcn:cv.ownBlock≠some g7:=zk8 hws.cnk hb7 (by decide)
 refine⟨⟨hb7.cell 3,hb7.frozen 3⟩,hws.grownAt hg2 (fun k e=>by injection e with e;subst e;exact⟨by omega,by omega,hcn,fun e2=>by have:=l3 g7 e2;omega⟩),hfr.grownAt hg2 (fun k e=>by injection e with e;omega),Blk.far (h.b6.grown hg (hn g6 (by omega))) (by show g7≠g6;omega) _,hb7.set_ 3 ev',Blk.far (h.bp.grown hg (hn gp (by omega))) (by show g7≠gp;omega) _,z4x ho (p:=⟨g7,3,none⟩) (fun e=>by have:=(ho.lt g7 e).1;omega) _,⟨o1,o2,o3,o4,Nat.le_trans o5 (Nat.le_trans hg.size hg2.size)⟩,h.lo⟩
end
section
variable {u0 u1 u2 u3 u4 u5 u6 u7 u8 u9 gA gC gD gE gF gG gH gI gJ gK gL gM gN gO gP gQ gR gT gV gW gX gY gZ i6 i7 i8 ia ib ic ie ig ii ij ik il im io ip iq ir iu iv iw ix iy iz iA iB iC iD iE iF iG iH iI iJ iK iL iM iN iO iP iQ iR iS iT iU iV iW iX iY iZ j0 j1 j2 j5 j6 j7 j8 j9 jb jd jf jg jh ji jj jk jl jm bE bF bG bH bI bJ bK bL bM bN bO bP bQ bT bU bV bW bX bY bZ cj ck cn cx cy cz cA cB cD cG cH cI cJ cM cN cO cP cQ cR cT cU cW cX cY cZ da dc dd de df dg dh di dj dm du dw dx dy dz dA dB dC dD dE dF dG dH dI dJ dK dL dM dN dO dP dQ dR dS dT dU dV dW dX dY dZ ed ei el en : Value}
theorem chR16 (ops:Array Oper)(hops:Tryz.f57.body.bind (z0x 16)=some ops)(Q:Exit→Act→World→Prop)(V:World)(g gw g18 g20:Nat)(v:Rev)(x:Edt)(F:World→Prop)(h18:Blk V g18 90 [.string v.path,.int .i64 v.num,.int .i64 v.chg,.int .i64 v.act,.int .i64 v.ty.base,.bool v.ty.k,.bool v.ty.l,.bool v.ty.x,.int .u64 v.sum,.int .i64 v.size,.string v.frm,.int .i64 v.fnum])(hne:g20≠g18)
  (hCO:∀ X,zB V X→Calls prog 107 #[.pointer (some ⟨gw,0,none⟩),.pointer (some ⟨g,0,none⟩)] X fun e w'=>∃ s z:Nat,e=.returned (.agg #[.int .u64 s,.int .i64 z])∧Blk w' g18 90 [.string v.path,.int .i64 v.num,.int .i64 v.chg,.int .i64 v.act,.int .i64 v.ty.base,.bool v.ty.k,.bool v.ty.l,.bool v.ty.x,.int .u64 v.sum,.int .i64 v.size,.string v.frm,.int .i64 v.fnum]∧Blk w' g20 100 [.string x.path,.int .i64 x.act,.int .i64 x.ty.base,.bool x.ty.k,.bool x.ty.l,.bool x.ty.x,.int .u64 x.sum,.int .i64 x.size,.int .i64 x.base,.string x.frm,.int .i64 x.fnum,.int .i64 x.fence]∧F w')
  (hQ:∀(ab ac ag ah ai aj ak am:Value) (s z:Nat) (w8 w':World),F w8→Blk w' g20 100 [.string x.path,.int .i64 2,.int .i64 v.ty.base,.bool v.ty.k,.bool v.ty.l,.bool v.ty.x,.int .u64 s,.int .i64 z,.int .i64 x.base,.string x.frm,.int .i64 x.fnum,.int .i64 x.fence]→Blk w8 g18 90 [.string v.path,.int .i64 v.num,.int .i64 v.chg,.int .i64 v.act,.int .i64 v.ty.base,.bool v.ty.k,.bool v.ty.l,.bool v.ty.x,.int .u64 v.sum,.int .i64 v.size,.string v.frm,.int .i64 v.fnum]→w8.grownBy w' (some g20)→Q .normal ⟨#[.pointer (some ⟨gw,0,none⟩),.pointer (some ⟨g,0,none⟩),u2,u3,u4,u5,u6,u7,u8,u9,gA,gC,gD,gE,gF,gG,gH,gI,.pointer (some ⟨g18,0,none⟩),gK,.pointer (some ⟨g20,0,none⟩),gM,gN,gO,gP,gQ,gR,gT,gV,gW,gX,gY,gZ,i6,i7,i8,ia,ib,ic,ie,ig,ii,ij,ik,il,im,io,ip,iq,ir,iu,iv,iw,ix,iy,iz,iA,iB,iC,iD,iE,iF,iG,iH,iI,iJ,iK,iL,iM,iN,iO,iP,iQ,iR,iS,iT,iU,iV,iW,iX,iY,iZ,j0,j1,j2,j5,j6,j7,j8,j9,jb,jd,jf,jg,jh,ji,jj,jk,jl,jm,bE,bF,ab,ac,ag,ah,ai,aj,ak,am,bO,bP,bQ,bT,bU,bV,bW,bX,bY,bZ,cj,ck,cn,cx,cy,cz,cA,cB,cD,cG,cH,cI,cJ,cM,cN,cO,cP,cQ,cR,cT,cU,cW,cX,cY,cZ,da,dc,dd,de,df,dg,dh,di,dj,dm,du,dw,dx,dy,dz,dA,dB,dC,dD,dE,dF,dG,dH,dI,dJ,dK,dL,dM,dN,dO,dP,dQ,dR,dS,dT,dU,dV,dW,dX,dY,dZ,ed,ei,el,en],[]⟩ w'):
  (Code.region 16 ops true).wp prog Q ⟨#[.pointer (some ⟨gw,0,none⟩),.pointer (some ⟨g,0,none⟩),u2,u3,u4,u5,u6,u7,u8,u9,gA,gC,gD,gE,gF,gG,gH,gI,.pointer (some ⟨g18,0,none⟩),gK,.pointer (some ⟨g20,0,none⟩),gM,gN,gO,gP,gQ,gR,gT,gV,gW,gX,gY,gZ,i6,i7,i8,ia,ib,ic,ie,ig,ii,ij,ik,il,im,io,ip,iq,ir,iu,iv,iw,ix,iy,iz,iA,iB,iC,iD,iE,iF,iG,iH,iI,iJ,iK,iL,iM,iN,iO,iP,iQ,iR,iS,iT,iU,iV,iW,iX,iY,iZ,j0,j1,j2,j5,j6,j7,j8,j9,jb,jd,jf,jg,jh,ji,jj,jk,jl,jm,bE,bF,bG,bH,bI,bJ,bK,bL,bM,bN,bO,bP,bQ,bT,bU,bV,bW,bX,bY,bZ,cj,ck,cn,cx,cy,cz,cA,cB,cD,cG,cH,cI,cJ,cM,cN,cO,cP,cQ,cR,cT,cU,cW,cX,cY,cZ,da,dc,dd,de,df,dg,dh,di,dj,dm,du,dw,dx,dy,dz,dA,dB,dC,dD,dE,dF,dG,dH,dI,dJ,dK,dL,dM,dN,dO,dP,dQ,dR,dS,dT,dU,dV,dW,dX,dY,dZ,ed,ei,el,en],[]⟩ V:=by
 simp only[Tryz.f57,Option.bind_some,z0x] at hops
 simp at hops
 subst hops;have HQ:=hd_ hQ;have HCO:=hd_ hCO;obtain⟨r0,r1,r2,r3,r4,r5,r6,r7,r8,r9,r10,r11⟩:=z81 h18;have hne2:¬(g18=g20):=fun e=>hne e.symm;clear hQ h18 hCO;refine wp_region_noPanic ?_;go_region_law (first
  | (go_simp;go_at_call 107;refine (HCO.out _ (by repeat (first | exact Below.refl _ _ | refine Below.drew ?_))).mono ?_;rintro e w8 ⟨s,z,rfl,h18,h20,hF⟩;obtain⟨p0,p1,p2,p3,p4,p5,p6,p7,p8,p9,p10,p11⟩:=z81 h18;obtain⟨x0,x1,x2,x3,x4,x5,x6,x7,x8,x9,x10,x11⟩:=z81 h20;obtain⟨f0,f1,f2,f3,f4,f5,f6,f7,f8,f9,f10,f11⟩:=zdi h20))
 all_goals refine NoPanic.normal ?_
 all_goals first
  | exact HQ.out _ _ _ _ _ _ _ _ s z w8 _ hF ((((((((h20).set_ 1 (.int .i64 2)).set_ 2 (.int .i64 v.ty.base)).set_ 3 (.bool v.ty.k)).set_ 4 (.bool v.ty.l)).set_ 5 (.bool v.ty.x)).set_ 6 (.int .u64 s)).set_ 7 (.int .i64 z)) h18 (zoq (zoq (zoq (zoq (zoq (zoq (zoq (zos _ _) 1 (.int .i64 2)) 2 (.int .i64 v.ty.base)) 3 (.bool v.ty.k)) 4 (.bool v.ty.l)) 5 (.bool v.ty.x)) 6 (.int .u64 s)) 7 (.int .i64 z))
  | exact HQ.out _ _ _ _ _ _ _ _ s z w8 _ hF (Blk.drew' ((((((((h20).set_ 1 (.int .i64 2)).set_ 2 (.int .i64 v.ty.base)).set_ 3 (.bool v.ty.k)).set_ 4 (.bool v.ty.l)).set_ 5 (.bool v.ty.x)).set_ 6 (.int .u64 s)).set_ 7 (.int .i64 z))) h18 (zor (zoq (zoq (zoq (zoq (zoq (zoq (zoq (zos _ _) 1 (.int .i64 2)) 2 (.int .i64 v.ty.base)) 3 (.bool v.ty.k)) 4 (.bool v.ty.l)) 5 (.bool v.ty.x)) 6 (.int .u64 s)) 7 (.int .i64 z)))
end
