/- A part. -/
import Derived.Test.YtlnjaagijaadmaaGreatDoorMvw13
set_option linter.unusedVariables false
set_option linter.unusedSimpArgs false
set_option maxHeartbeats 8000000
set_option maxRecDepth 100000
namespace Go.Proofs.YtlnjaagijaadmaaGreatDoor
open Go.Proofs.Tryz
open Go.RowKit
theorem zff (revs:List Rev)(p:zA)(k:Nat)(h:k<revs.length):zf9 (revs.take (k+1)) p=zf9 (revs.take k) p++(if revs[k].kt=p then [revs[k]] else []):=by
 rw[Zr h,zfb];congr 1
 unfold zf9;rw[List.filter_cons];by_cases e:revs[k].kt=p
 ·simp [e]
 ·simp [e]
theorem zfg (revs:List Rev)(p:zA):(zf9 revs p).length<=revs.length:=ZS ..
theorem zfh (x:Rev):∀ v∈x.cells,v.oneCell'=true:=by
 intro v hv;simp only[Rev.cells,Zn,ZO,or_false] at hv
 rcases hv with rfl | rfl | rfl | rfl | rfl | rfl | rfl | rfl | rfl | rfl | rfl | rfl <;> rfl
def zfi (w:zW)(revs:List Rev)(p:zA)(e:Ending)(w':zW):Prop:=∃ A c,e=.returned (zL A (zf9 revs p).length c)/\zB w w'/\z3w w' (zL A (zf9 revs p).length c) (zf9 revs p)
theorem zfj (revs:List Rev)(p:zA)(dv dr:zV)(w:zW)(hR:z3w w dv revs)(hl:revs.length<=1000000):
  Calls prog 59 #[.agg #[dv,dr],zS p] w (zfi w revs p):=by
 obtain⟨Ar,cr,rfl,hcr,hmr,-⟩:=id hR;have HR:=hd_ hR;clear hR;unfold maxLen at hmr;go_enter func59,ntmps59;have hB:=z0l w [zL Ar revs.length cr,dr] 27;have hA:zB w (w.alloc (zC #[zL Ar revs.length cr,dr] 27)):=zR;go_upto_region 2 with fail;generalize w.alloc (zC #[zL Ar revs.length cr,dr] 27)=W1 at hB hA |-;obtain⟨d0,-,-,-⟩:=box2 hB;have HA:=hd_ hA;clear hA hB;go_wp2_with fail;clear d0;go_loopw [5,11] (fun u s wr=>∃(k n:Nat) (A:zP) (c:Nat),s=zI k/\u=zL A n c/\k<=revs.length/\n<=k/\Hid (n=(zf9 (revs.take k) p).length/\zB W1 wr/\wr.ownsRow W1.heap.size 78 12 (zL A n c) n ((zf9 (revs.take k) p).flatMap Rev.cells))) (fun _ s _=>revs.length - (intOf s).toNat)
 exact⟨0,0,none,0,rfl,rfl,Zg _,Zd _,rfl,Zb _ _,Zv _ _ _ _⟩
 obtain⟨k,n,A,c,rfl,rfl,hk,hnk,HI⟩:=hrel;by_cases hlt:k<revs.length
 ·obtain⟨ad,rfl,hab,hld⟩:=z3w.at_ (HR.out.kw (z0r HA.out HI.out.2.1)) hlt;have HT:=hd_ (zff revs p k hlt);generalize revs[k]=r at hld HT;obtain⟨x0,x1,x2,x3,x4,x5,x6,x7,x8,x9,x10,x11⟩:=hld;have hX:=z0l wr [zS r.kt,zI r.num,zI r.chg,zI r.act,zI r.ty.base,.bool r.ty.k,.bool r.ty.l,.bool r.ty.x,.int .u64 r.sum,zI r.size,zS r.frm,zI r.fnum] 78;have hA1:zB wr (wr.alloc (zC #[zS r.kt,zI r.num,zI r.chg,zI r.act,zI r.ty.base,.bool r.ty.k,.bool r.ty.l,.bool r.ty.x,.int .u64 r.sum,zI r.size,zS r.frm,zI r.fnum] 78)):=zR;go_upto_region 5 with fail;clear x0 x1 x2 x3 x4 x5 x6 x7 x8 x9 x10 x11;generalize wr.alloc (zC #[zS r.kt,zI r.num,zI r.chg,zI r.act,zI r.ty.base,.bool r.ty.k,.bool r.ty.l,.bool r.ty.x,.int .u64 r.sum,zI r.size,zS r.frm,zI r.fnum] 78)=V1 at hX hA1 |-;obtain⟨y0,y1,y2,y3,y4,y5,y6,y7,y8,y9,y10,y11⟩:=z57 hX;by_cases hp:r.kt=p
  ·have q:=zev r.kt p;rw[decide_eq_true hp] at q;rw[if_pos hp] at HT;have HN:Hid (n=(zf9 (revs.take k) p).length/\zB W1 V1/\V1.ownsRow W1.heap.size 78 12 (zL A n c) n ((zf9 (revs.take k) p).flatMap Rev.cells)):=hd_ ⟨HI.1,z0r HI.2.1 hA1,z0n HI.2.2 hA1⟩;clear hX hA1 hp;go_wp2_with (at_builtin;refine z0k rfl rfl zfd ((z0n HN.2.2 (zR))) rfl (z0i V1 [zS r.kt,zI r.num,zI r.chg,zI r.act,zI r.ty.base,.bool r.ty.k,.bool r.ty.l,.bool r.ty.x,.int .u64 r.sum,zI r.size,zS r.frm,zI r.fnum] _ 12 1 rfl (by decide) _ rfl) rfl (HN.2.1.alloc HN.2.1.size _) (HN.2.1.alloc HN.2.1.size _).size (zfh r) (by omega) (by unfold maxLen;omega) ?_;intro A' c' w2 hown2 hbl2)
   have HO2:=hd_ hown2;have HB2:=hd_ hbl2;clear y0 y1 y2 y3 y4 y5 y6 y7 y8 y9 y10 y11 hown2 hbl2;go_wp2_with fail;go_roundw
   case rel =>
    refine⟨k+1,n+1,A',c',by go_num,rfl,by omega,by omega,?_,HB2,?_⟩
    ·rw[HT.out,Zc,ZL,<- HN.out.1]
    ·rw[HT.out,ZI,ZG,List.flatMap_nil,ZM];exact HO2
   case measure=>simp [intOf];omega
  ·have q:=zev r.kt p;rw[decide_eq_false hp] at q;rw[if_neg hp,ZM] at HT;have HN:Hid (n=(zf9 (revs.take (k+1)) p).length/\zB W1 V1/\V1.ownsRow W1.heap.size 78 12 (zL A n c) n ((zf9 (revs.take (k+1)) p).flatMap Rev.cells)):=hd_ (by rw[HT.out];exact⟨HI.1,z0r HI.2.1 hA1,z0n HI.2.2 hA1⟩)
   clear hX hA1 hp HT;go_wp2_with fail;go_roundw
   exact⟨k+1,n,A,c,by go_num,rfl,by omega,by omega,HN⟩
   simp [intOf];omega
 ·have hke:k=revs.length:=by omega
  have HF:Hid (n=(zf9 revs p).length/\zB W1 wr/\wr.ownsRow W1.heap.size 78 12 (zL A n c) n ((zf9 revs p).flatMap Rev.cells)):=hd_ (by
   have:=HI.out;rwa [hke,ZH] at this)
  clear HI hke;go_wp2_with fail;go_ret;obtain⟨hn,h1,h2⟩:=HF.out;subst hn;exact⟨A,c,rfl,z0r HA h1,Row.of_own h2⟩
def zfk (w:zW)(o:Option Rev)(e:Ending)(w':zW):Prop:=e=.returned (.tuple #[.agg #[zS (zf8 o).kt,zI (zf8 o).num,zI (zf8 o).chg,zI (zf8 o).act,zI (zf8 o).ty.base,.bool (zf8 o).ty.k,.bool (zf8 o).ty.l,.bool (zf8 o).ty.x,.int .u64 (zf8 o).sum,zI (zf8 o).size,zS (zf8 o).frm,zI (zf8 o).fnum],.bool o.isSome])/\zB w w'
theorem zfl (revs:List Rev)(p:zA)(dv dr:zV)(w:zW)(hR:z3w w dv revs)(hl:revs.length<=1000000):
  Calls prog 80 #[.agg #[dv,dr],zS p] w (zfk w (zfc revs p)):=by
 obtain⟨Ar,cr,rfl,-⟩:=id hR;have HR:=hd_ hR;clear hR;have HLN:=hd_ (zfg revs p);go_enter func80,ntmps80;have hb0:zB w ((w.alloc (zC #[zL Ar revs.length cr,dr] 27)).alloc (zC #[zS ⟨#[]⟩,zI 0,zI 0,zI 0,zI 0,.bool false,.bool false,.bool false,.int .u64 0,zI 0,zS ⟨#[]⟩,zI 0] 78)):=(zR).alloc (by simp) _
 have hZ:Blk ((w.alloc (zC #[zL Ar revs.length cr,dr] 27)).alloc (zC #[zS ⟨#[]⟩,zI 0,zI 0,zI 0,zI 0,.bool false,.bool false,.bool false,.int .u64 0,zI 0,zS ⟨#[]⟩,zI 0] 78)) (w.heap.size+1) 78 [zS ⟨#[]⟩,zI 0,zI 0,zI 0,zI 0,.bool false,.bool false,.bool false,.int .u64 0,zI 0,zS ⟨#[]⟩,zI 0]:=by
  have h1:=z0l (w.alloc (zC #[zL Ar revs.length cr,dr] 27)) [zS ⟨#[]⟩,zI 0,zI 0,zI 0,zI 0,.bool false,.bool false,.bool false,.int .u64 0,zI 0,zS ⟨#[]⟩,zI 0] 78;simp only[Zl] at h1
  exact h1
 have hB:Blk ((w.alloc (zC #[zL Ar revs.length cr,dr] 27)).alloc (zC #[zS ⟨#[]⟩,zI 0,zI 0,zI 0,zI 0,.bool false,.bool false,.bool false,.int .u64 0,zI 0,zS ⟨#[]⟩,zI 0] 78)) w.heap.size 27 [zL Ar revs.length cr,dr]:=(z0l w _ _).alloc _;go_upto_region 1 with fail;generalize (w.alloc (zC #[zL Ar revs.length cr,dr] 27)).alloc (zC #[zS ⟨#[]⟩,zI 0,zI 0,zI 0,zI 0,.bool false,.bool false,.bool false,.int .u64 0,zI 0,zS ⟨#[]⟩,zI 0] 78)=W1 at hb0 hZ hB |-;obtain⟨d0,d1,-,-⟩:=box2 hB;have HL:=hd_ (zfj revs p (zL Ar revs.length cr) dr W1 (HR.kw hb0) hl);have Hb0:=hd_ hb0;have HZ:=hd_ hZ;clear hb0 hZ hB;go_wp2_with fail;refine HL.mono ?_;rintro e w2 ⟨A,c,rfl,hb2,hL⟩;clear d0 d1;have HB2:=hd_ hb2;have HLL:=hd_ hL;have hZ2:=HZ.out.kw hb2 HZ.out.lt;obtain⟨z0,z1,z2,z3,z4,z5,z6,z7,z8,z9,z10,z11⟩:=z57 hZ2;obtain⟨y0,y1,y2,y3,y4,y5,y6,y7,y8,y9,y10,y11⟩:=zf0 hZ2;clear hb2 hL HL;have HRL:Hid (zfc revs p=(zf9 revs p).getLast?):=hd_ rfl;have hll:(zf9 revs p).length<=revs.length:=HLN.out;generalize zf9 revs p=L at HLL hll HRL |-;by_cases h0:L.length=0
 ·have HN:Hid (zfc revs p=none):=hd_ (by rw[HRL.out,List.length_eq_zero_iff.1 h0];rfl)
  have q:((L.length:Int) == 0)=true:=by rw[beq_iff_eq];omega
  clear h0;go_wp2_with fail;have hZ9:Blk ((((((((((((w2.setCell ⟨w.heap.size+1,0,none⟩ (zS ⟨#[]⟩)).setCell ⟨w.heap.size+1,1,none⟩ (zI 0)).setCell ⟨w.heap.size+1,2,none⟩ (zI 0)).setCell ⟨w.heap.size+1,3,none⟩ (zI 0)).setCell ⟨w.heap.size+1,4,none⟩ (zI 0)).setCell ⟨w.heap.size+1,5,none⟩ (.bool false)).setCell ⟨w.heap.size+1,6,none⟩ (.bool false)).setCell ⟨w.heap.size+1,7,none⟩ (.bool false)).setCell ⟨w.heap.size+1,8,none⟩ (.int .u64 0)).setCell ⟨w.heap.size+1,9,none⟩ (zI 0)).setCell ⟨w.heap.size+1,10,none⟩ (zS ⟨#[]⟩)).setCell ⟨w.heap.size+1,11,none⟩ (zI 0)) (w.heap.size+1) 78 [zS ⟨#[]⟩,zI 0,zI 0,zI 0,zI 0,.bool false,.bool false,.bool false,.int .u64 0,zI 0,zS ⟨#[]⟩,zI 0]:=zf1 hZ2 z2s;have hB9:zB w ((((((((((((w2.setCell ⟨w.heap.size+1,0,none⟩ (zS ⟨#[]⟩)).setCell ⟨w.heap.size+1,1,none⟩ (zI 0)).setCell ⟨w.heap.size+1,2,none⟩ (zI 0)).setCell ⟨w.heap.size+1,3,none⟩ (zI 0)).setCell ⟨w.heap.size+1,4,none⟩ (zI 0)).setCell ⟨w.heap.size+1,5,none⟩ (.bool false)).setCell ⟨w.heap.size+1,6,none⟩ (.bool false)).setCell ⟨w.heap.size+1,7,none⟩ (.bool false)).setCell ⟨w.heap.size+1,8,none⟩ (.int .u64 0)).setCell ⟨w.heap.size+1,9,none⟩ (zI 0)).setCell ⟨w.heap.size+1,10,none⟩ (zS ⟨#[]⟩)).setCell ⟨w.heap.size+1,11,none⟩ (zI 0)):=zf2 (z0r Hb0 HB2) (show w.heap.size<=w.heap.size+1 by omega) z2s
  generalize ((((((((((((w2.setCell ⟨w.heap.size+1,0,none⟩ (zS ⟨#[]⟩)).setCell ⟨w.heap.size+1,1,none⟩ (zI 0)).setCell ⟨w.heap.size+1,2,none⟩ (zI 0)).setCell ⟨w.heap.size+1,3,none⟩ (zI 0)).setCell ⟨w.heap.size+1,4,none⟩ (zI 0)).setCell ⟨w.heap.size+1,5,none⟩ (.bool false)).setCell ⟨w.heap.size+1,6,none⟩ (.bool false)).setCell ⟨w.heap.size+1,7,none⟩ (.bool false)).setCell ⟨w.heap.size+1,8,none⟩ (.int .u64 0)).setCell ⟨w.heap.size+1,9,none⟩ (zI 0)).setCell ⟨w.heap.size+1,10,none⟩ (zS ⟨#[]⟩)).setCell ⟨w.heap.size+1,11,none⟩ (zI 0))=W9 at hZ9 hB9 |-;obtain⟨e0,e1,e2,e3,e4,e5,e6,e7,e8,e9,e10,e11⟩:=z57 hZ9;exact bodyPost_ret (v:=.tuple #[.agg #[zS ⟨#[]⟩,zI 0,zI 0,zI 0,zI 0,.bool false,.bool false,.bool false,.int .u64 0,zI 0,zS ⟨#[]⟩,zI 0],.bool false]) (by simp [results,results80,go_sem,e0,e1,e2,e3,e4,e5,e6,e7,e8,e9,e10,e11]) rfl ⟨by rw[HN.out];rfl,hB9⟩
 ·have hk:L.length - 1<L.length:=by omega
  obtain⟨ad,rfl,hab,hld⟩:=z3w.at_ HLL.out hk;have HN:Hid (zfc revs p=some L[L.length - 1]):=hd_ (by rw[HRL.out,List.getLast?_eq_getElem?,Ze hk])
  have q:((L.length:Int) == 0)=false:=by rw[beq_eq_false_iff_ne];omega
  obtain⟨j,hj⟩:∃ j:Nat,j=L.length - 1:=⟨_,rfl⟩;have hjz:(L.length:Int) - 1=(j:Int):=by omega
  have hjl:(j:Int)<(L.length:Int):=by omega
  have hj0:0<=(j:Int):=by omega
  generalize L[L.length - 1]=r at hld HN;rw[<- hj] at hld;obtain⟨x0,x1,x2,x3,x4,x5,x6,x7,x8,x9,x10,x11⟩:=hld;clear h0 hk hj;go_wp2_with fail;have hZ9:=zf1 hZ2 r;have hB9:=zf2 (z0r Hb0.out HB2.out) (show w.heap.size<=w.heap.size+1 by omega) r
  generalize ((((((((((((w2.setCell ⟨w.heap.size+1,0,none⟩ (zS r.kt)).setCell ⟨w.heap.size+1,1,none⟩ (zI r.num)).setCell ⟨w.heap.size+1,2,none⟩ (zI r.chg)).setCell ⟨w.heap.size+1,3,none⟩ (zI r.act)).setCell ⟨w.heap.size+1,4,none⟩ (zI r.ty.base)).setCell ⟨w.heap.size+1,5,none⟩ (.bool r.ty.k)).setCell ⟨w.heap.size+1,6,none⟩ (.bool r.ty.l)).setCell ⟨w.heap.size+1,7,none⟩ (.bool r.ty.x)).setCell ⟨w.heap.size+1,8,none⟩ (.int .u64 r.sum)).setCell ⟨w.heap.size+1,9,none⟩ (zI r.size)).setCell ⟨w.heap.size+1,10,none⟩ (zS r.frm)).setCell ⟨w.heap.size+1,11,none⟩ (zI r.fnum))=W9 at hZ9 hB9 |-;obtain⟨e0,e1,e2,e3,e4,e5,e6,e7,e8,e9,e10,e11⟩:=z57 hZ9;exact bodyPost_ret (v:=.tuple #[.agg #[zS r.kt,zI r.num,zI r.chg,zI r.act,zI r.ty.base,.bool r.ty.k,.bool r.ty.l,.bool r.ty.x,.int .u64 r.sum,zI r.size,zS r.frm,zI r.fnum],.bool true]) (by simp [results,results80,go_sem,e0,e1,e2,e3,e4,e5,e6,e7,e8,e9,e10,e11]) rfl ⟨by rw[HN.out];rfl,hB9⟩
def Fresh (B:Nat)(v:zV):Prop:=∀ x,v.ownBlock=some x->B<=x
def zfp (w:zW)(revs:List Rev)(p:zA)(e:Ending)(w':zW):Prop:=∃ A c,e=.returned (zL A (zf9 revs p).length c)/\zB w w'/\z3w w' (zL A (zf9 revs p).length c) (zf9 revs p)/\Fresh w.heap.size (zL A (zf9 revs p).length c)
theorem zfq (revs:List Rev)(p:zA)(dv dr:zV)(w:zW)(hR:z3w w dv revs)(hl:revs.length<=1000000):
  Calls prog 59 #[.agg #[dv,dr],zS p] w (zfp w revs p):=by
 obtain⟨Ar,cr,rfl,hcr,hmr,-⟩:=id hR;have HR:=hd_ hR;clear hR;unfold maxLen at hmr;go_enter func59,ntmps59;have hB:=z0l w [zL Ar revs.length cr,dr] 27;have hA:zB w (w.alloc (zC #[zL Ar revs.length cr,dr] 27)):=zR;go_upto_region 2 with fail;generalize w.alloc (zC #[zL Ar revs.length cr,dr] 27)=W1 at hB hA |-;obtain⟨d0,-,-,-⟩:=box2 hB;have HA:=hd_ hA;clear hA hB;go_wp2_with fail;clear d0;go_loopw [5,11] (fun u s wr=>∃(k n:Nat) (A:zP) (c:Nat),s=zI k/\u=zL A n c/\k<=revs.length/\n<=k/\Hid (n=(zf9 (revs.take k) p).length/\zB W1 wr/\wr.ownsRow W1.heap.size 78 12 (zL A n c) n ((zf9 (revs.take k) p).flatMap Rev.cells))) (fun _ s _=>revs.length - (intOf s).toNat)
 exact⟨0,0,none,0,rfl,rfl,Zg _,Zd _,rfl,Zb _ _,Zv _ _ _ _⟩
 obtain⟨k,n,A,c,rfl,rfl,hk,hnk,HI⟩:=hrel;by_cases hlt:k<revs.length
 ·obtain⟨ad,rfl,hab,hld⟩:=z3w.at_ (HR.out.kw (z0r HA.out HI.out.2.1)) hlt;have HT:=hd_ (zff revs p k hlt);generalize revs[k]=r at hld HT;obtain⟨x0,x1,x2,x3,x4,x5,x6,x7,x8,x9,x10,x11⟩:=hld;have hX:=z0l wr [zS r.kt,zI r.num,zI r.chg,zI r.act,zI r.ty.base,.bool r.ty.k,.bool r.ty.l,.bool r.ty.x,.int .u64 r.sum,zI r.size,zS r.frm,zI r.fnum] 78;have hA1:zB wr (wr.alloc (zC #[zS r.kt,zI r.num,zI r.chg,zI r.act,zI r.ty.base,.bool r.ty.k,.bool r.ty.l,.bool r.ty.x,.int .u64 r.sum,zI r.size,zS r.frm,zI r.fnum] 78)):=zR;go_upto_region 5 with fail;clear x0 x1 x2 x3 x4 x5 x6 x7 x8 x9 x10 x11;generalize wr.alloc (zC #[zS r.kt,zI r.num,zI r.chg,zI r.act,zI r.ty.base,.bool r.ty.k,.bool r.ty.l,.bool r.ty.x,.int .u64 r.sum,zI r.size,zS r.frm,zI r.fnum] 78)=V1 at hX hA1 |-;obtain⟨y0,y1,y2,y3,y4,y5,y6,y7,y8,y9,y10,y11⟩:=z57 hX;by_cases hp:r.kt=p
  ·have q:=zev r.kt p;rw[decide_eq_true hp] at q;rw[if_pos hp] at HT;have HN:Hid (n=(zf9 (revs.take k) p).length/\zB W1 V1/\V1.ownsRow W1.heap.size 78 12 (zL A n c) n ((zf9 (revs.take k) p).flatMap Rev.cells)):=hd_ ⟨HI.1,z0r HI.2.1 hA1,z0n HI.2.2 hA1⟩;clear hX hA1 hp;go_wp2_with (at_builtin;refine z0k rfl rfl zfd ((z0n HN.2.2 (zR))) rfl (z0i V1 [zS r.kt,zI r.num,zI r.chg,zI r.act,zI r.ty.base,.bool r.ty.k,.bool r.ty.l,.bool r.ty.x,.int .u64 r.sum,zI r.size,zS r.frm,zI r.fnum] _ 12 1 rfl (by decide) _ rfl) rfl (HN.2.1.alloc HN.2.1.size _) (HN.2.1.alloc HN.2.1.size _).size (zfh r) (by omega) (by unfold maxLen;omega) ?_;intro A' c' w2 hown2 hbl2)
   have HO2:=hd_ hown2;have HB2:=hd_ hbl2;clear y0 y1 y2 y3 y4 y5 y6 y7 y8 y9 y10 y11 hown2 hbl2;go_wp2_with fail;go_roundw
   case rel =>
    refine⟨k+1,n+1,A',c',by go_num,rfl,by omega,by omega,?_,HB2,?_⟩
    ·rw[HT.out,Zc,ZL,<- HN.out.1]
    ·rw[HT.out,ZI,ZG,List.flatMap_nil,ZM];exact HO2
   case measure=>simp [intOf];omega
  ·have q:=zev r.kt p;rw[decide_eq_false hp] at q;rw[if_neg hp,ZM] at HT;have HN:Hid (n=(zf9 (revs.take (k+1)) p).length/\zB W1 V1/\V1.ownsRow W1.heap.size 78 12 (zL A n c) n ((zf9 (revs.take (k+1)) p).flatMap Rev.cells)):=hd_ (by rw[HT.out];exact⟨HI.1,z0r HI.2.1 hA1,z0n HI.2.2 hA1⟩)
   clear hX hA1 hp HT;go_wp2_with fail;go_roundw
   exact⟨k+1,n,A,c,by go_num,rfl,by omega,by omega,HN⟩
   simp [intOf];omega
 ·have hke:k=revs.length:=by omega
  have HF:Hid (n=(zf9 revs p).length/\zB W1 wr/\wr.ownsRow W1.heap.size 78 12 (zL A n c) n ((zf9 revs p).flatMap Rev.cells)):=hd_ (by
   have:=HI.out;rwa [hke,ZH] at this)
  clear HI hke;go_wp2_with fail;go_ret;obtain⟨hn,h1,h2⟩:=HF.out;subst hn;exact⟨A,c,rfl,z0r HA h1,Row.of_own h2,fun x e=>Zf HA.size (h2.lt x e).1⟩
structure AtSt (w wr:zW)(g:Nat)(m:Int)(A:zP)(c:Nat)(L:List Rev)(k:Nat):Prop where
 bel:zB w wr
 box1:Blk wr (g+1) 78 [zS ⟨#[]⟩,zI 0,zI 0,zI 0,zI 0,.bool false,.bool false,.bool false,.int .u64 0,zI 0,zS ⟨#[]⟩,zI 0]
 box2:Blk wr (g+1+1) 78 [zS (((L.take k).foldl (atM m) z2s)).kt,zI (((L.take k).foldl (atM m) z2s)).num,zI (((L.take k).foldl (atM m) z2s)).chg,zI (((L.take k).foldl (atM m) z2s)).act,zI (((L.take k).foldl (atM m) z2s)).ty.base,.bool (((L.take k).foldl (atM m) z2s)).ty.k,.bool (((L.take k).foldl (atM m) z2s)).ty.l,.bool (((L.take k).foldl (atM m) z2s)).ty.x,.int .u64 (((L.take k).foldl (atM m) z2s)).sum,zI (((L.take k).foldl (atM m) z2s)).size,zS (((L.take k).foldl (atM m) z2s)).frm,zI (((L.take k).foldl (atM m) z2s)).fnum]
 row:z3w wr (zL A L.length c) L
theorem AtSt.ku {w wr X:zW}{g:Nat}{m:Int}{A:zP}{c:Nat}{L:List Rev}{k:Nat}(h:AtSt w wr g m A c L k)(hX:zB wr X):AtSt w X g m A c L k:=
 ⟨z0r h.bel hX,h.box1.below' hX,h.box2.below' hX,h.row.kw hX⟩
theorem row12 {w:zW}{g size n:Nat}{v:zV}{xs:List zV}(h:Row w size v n xs)(hne:v.ownBlock≠some g)(r:Rev):Row ((((((((((((w.setCell ⟨g,0,none⟩ (zS r.kt)).setCell ⟨g,1,none⟩ (zI r.num)).setCell ⟨g,2,none⟩ (zI r.chg)).setCell ⟨g,3,none⟩ (zI r.act)).setCell ⟨g,4,none⟩ (zI r.ty.base)).setCell ⟨g,5,none⟩ (.bool r.ty.k)).setCell ⟨g,6,none⟩ (.bool r.ty.l)).setCell ⟨g,7,none⟩ (.bool r.ty.x)).setCell ⟨g,8,none⟩ (.int .u64 r.sum)).setCell ⟨g,9,none⟩ (zI r.size)).setCell ⟨g,10,none⟩ (zS r.frm)).setCell ⟨g,11,none⟩ (zI r.fnum)) size v n xs:=by
 repeat (refine Row.set_far ?_ hne)
 exact h
theorem at_next (m:Int)(L:List Rev)(k:Nat)(h:k<L.length):(L.take (k+1)).foldl (atM m) z2s=atM m ((L.take k).foldl (atM m) z2s) L[k]:=by
 rw[Zr h,List.foldl_append];rfl
theorem zfr (revs:List Rev)(p:zA)(m:Int)(dv dr:zV)(w:zW)(hR:z3w w dv revs)(hl:revs.length<=1000000):
  Calls prog 28 #[.agg #[dv,dr],zS p,zI m] w fun e w'=>e=.returned (.tuple #[.agg #[zS ((rAt revs p m)).kt,zI ((rAt revs p m)).num,zI ((rAt revs p m)).chg,zI ((rAt revs p m)).act,zI ((rAt revs p m)).ty.base,.bool ((rAt revs p m)).ty.k,.bool ((rAt revs p m)).ty.l,.bool ((rAt revs p m)).ty.x,.int .u64 ((rAt revs p m)).sum,zI ((rAt revs p m)).size,zS ((rAt revs p m)).frm,zI ((rAt revs p m)).fnum],.bool (decide (0<(rAt revs p m).num))])/\zB w w':=by
 obtain⟨Ar,cr,rfl,-⟩:=id hR;have HR:=hd_ hR;clear hR;have HLN:=hd_ (zfg revs p);go_enter func28,ntmps28;have hb0:zB w (((w.alloc (zC #[zL Ar revs.length cr,dr] 27)).alloc (zC #[zS ⟨#[]⟩,zI 0,zI 0,zI 0,zI 0,.bool false,.bool false,.bool false,.int .u64 0,zI 0,zS ⟨#[]⟩,zI 0] 78)).alloc (zC #[zS ⟨#[]⟩,zI 0,zI 0,zI 0,zI 0,.bool false,.bool false,.bool false,.int .u64 0,zI 0,zS ⟨#[]⟩,zI 0] 78)):=((zR).alloc (by simp) _).alloc (by simp;omega) _
 have hB:Blk (((w.alloc (zC #[zL Ar revs.length cr,dr] 27)).alloc (zC #[zS ⟨#[]⟩,zI 0,zI 0,zI 0,zI 0,.bool false,.bool false,.bool false,.int .u64 0,zI 0,zS ⟨#[]⟩,zI 0] 78)).alloc (zC #[zS ⟨#[]⟩,zI 0,zI 0,zI 0,zI 0,.bool false,.bool false,.bool false,.int .u64 0,zI 0,zS ⟨#[]⟩,zI 0] 78)) w.heap.size 27 [zL Ar revs.length cr,dr]:=((z0l w _ _).alloc _).alloc _;have hZ:Blk (((w.alloc (zC #[zL Ar revs.length cr,dr] 27)).alloc (zC #[zS ⟨#[]⟩,zI 0,zI 0,zI 0,zI 0,.bool false,.bool false,.bool false,.int .u64 0,zI 0,zS ⟨#[]⟩,zI 0] 78)).alloc (zC #[zS ⟨#[]⟩,zI 0,zI 0,zI 0,zI 0,.bool false,.bool false,.bool false,.int .u64 0,zI 0,zS ⟨#[]⟩,zI 0] 78)) (w.heap.size+1) 78 [zS ⟨#[]⟩,zI 0,zI 0,zI 0,zI 0,.bool false,.bool false,.bool false,.int .u64 0,zI 0,zS ⟨#[]⟩,zI 0]:=by
  have h1:=(z0l (w.alloc (zC #[zL Ar revs.length cr,dr] 27)) [zS ⟨#[]⟩,zI 0,zI 0,zI 0,zI 0,.bool false,.bool false,.bool false,.int .u64 0,zI 0,zS ⟨#[]⟩,zI 0] 78).alloc (zC #[zS ⟨#[]⟩,zI 0,zI 0,zI 0,zI 0,.bool false,.bool false,.bool false,.int .u64 0,zI 0,zS ⟨#[]⟩,zI 0] 78);simp only[Zl] at h1
  exact h1
 have hY:Blk (((w.alloc (zC #[zL Ar revs.length cr,dr] 27)).alloc (zC #[zS ⟨#[]⟩,zI 0,zI 0,zI 0,zI 0,.bool false,.bool false,.bool false,.int .u64 0,zI 0,zS ⟨#[]⟩,zI 0] 78)).alloc (zC #[zS ⟨#[]⟩,zI 0,zI 0,zI 0,zI 0,.bool false,.bool false,.bool false,.int .u64 0,zI 0,zS ⟨#[]⟩,zI 0] 78)) (w.heap.size+1+1) 78 [zS ⟨#[]⟩,zI 0,zI 0,zI 0,zI 0,.bool false,.bool false,.bool false,.int .u64 0,zI 0,zS ⟨#[]⟩,zI 0]:=by
  have h1:=z0l ((w.alloc (zC #[zL Ar revs.length cr,dr] 27)).alloc (zC #[zS ⟨#[]⟩,zI 0,zI 0,zI 0,zI 0,.bool false,.bool false,.bool false,.int .u64 0,zI 0,zS ⟨#[]⟩,zI 0] 78)) [zS ⟨#[]⟩,zI 0,zI 0,zI 0,zI 0,.bool false,.bool false,.bool false,.int .u64 0,zI 0,zS ⟨#[]⟩,zI 0] 78;simp only[Zl] at h1
  exact h1
 go_upto_region 2 with fail;generalize ((w.alloc (zC #[zL Ar revs.length cr,dr] 27)).alloc (zC #[zS ⟨#[]⟩,zI 0,zI 0,zI 0,zI 0,.bool false,.bool false,.bool false,.int .u64 0,zI 0,zS ⟨#[]⟩,zI 0] 78)).alloc (zC #[zS ⟨#[]⟩,zI 0,zI 0,zI 0,zI 0,.bool false,.bool false,.bool false,.int .u64 0,zI 0,zS ⟨#[]⟩,zI 0] 78)=W1 at hb0 hB hZ hY |-;obtain⟨d0,d1,-,-⟩:=box2 hB;have HL:=hd_ (zfq revs p (zL Ar revs.length cr) dr W1 (HR.kw hb0) hl);have Hb0:=hd_ hb0;have HZ:=hd_ hZ;have HY:=hd_ hY;clear hb0 hZ hB hY;go_wp2_with fail;refine HL.mono ?_;rintro e w2 ⟨A,c,rfl,hb2,hL,hf⟩;clear d0 d1;have HAT:Hid (rAt revs p m=(zf9 revs p).foldl (atM m) z2s):=hd_ rfl;have hll:(zf9 revs p).length<=revs.length:=HLN.out;generalize zf9 revs p=L at hL hll hf HAT |-;obtain⟨A',c',e',hcc,hmm,-⟩:=id hL;injection e' with e1 e2 e3
 subst e1 e3;unfold maxLen at hmm;have hlt2:=HY.out.lt;have HNE:Hid ((zL A L.length c).ownBlock≠some (w.heap.size+1+1)):=hd_ (fun e=>by have:=hf _ e;omega)
 have HST:Hid (AtSt w w2 w.heap.size m A c L 0):=hd_ ⟨z0r Hb0 hb2,HZ.below' hb2,by rw[List.take_zero];exact HY.below' hb2,hL⟩
 clear hb2 hL hf HL e2 hlt2;go_wp2_with fail;go_loopw [15] (fun s wr=>∃ k:Nat,s=zI k/\k<=L.length/\Hid (AtSt w wr w.heap.size m A c L k)) (fun s _=>L.length - (intOf s).toNat)
 exact⟨0,rfl,Zg _,HST⟩
 obtain⟨k,rfl,hk,HI⟩:=hrel;by_cases hlt:k<L.length
 ·obtain⟨ad,rfl,hab,hld⟩:=z3w.at_ HI.out.row hlt;have HN:=hd_ (at_next m L k hlt);generalize L[k]=r at hld HN;obtain⟨x0,x1,x2,x3,x4,x5,x6,x7,x8,x9,x10,x11⟩:=hld;have hX:=z0l wr [zS r.kt,zI r.num,zI r.chg,zI r.act,zI r.ty.base,.bool r.ty.k,.bool r.ty.l,.bool r.ty.x,.int .u64 r.sum,zI r.size,zS r.frm,zI r.fnum] 78;have hA1:zB wr (wr.alloc (zC #[zS r.kt,zI r.num,zI r.chg,zI r.act,zI r.ty.base,.bool r.ty.k,.bool r.ty.l,.bool r.ty.x,.int .u64 r.sum,zI r.size,zS r.frm,zI r.fnum] 78)):=zR;have HS1:=hd_ (HI.ku hA1);go_upto_region 5 with fail;clear x0 x1 x2 x3 x4 x5 x6 x7 x8 x9 x10 x11;generalize wr.alloc (zC #[zS r.kt,zI r.num,zI r.chg,zI r.act,zI r.ty.base,.bool r.ty.k,.bool r.ty.l,.bool r.ty.x,.int .u64 r.sum,zI r.size,zS r.frm,zI r.fnum] 78)=V1 at hX hA1 HS1 |-;obtain⟨x0,x1,x2,x3,x4,x5,x6,x7,x8,x9,x10,x11⟩:=z57 hX;clear hX hA1;by_cases hc:r.chg<=m
  ·have q:decide (r.chg<=m)=true:=by simpa using hc
   have HE:Hid ((L.take (k+1)).foldl (atM m) z2s=r):=hd_ (by rw[HN.out];unfold atM;rw[if_pos hc])
   obtain⟨y0,y1,y2,y3,y4,y5,y6,y7,y8,y9,y10,y11⟩:=zf0 HS1.out.box2;obtain⟨z0,z1,z2,z3,z4,z5,z6,z7,z8,z9,z10,z11⟩:=z57 HS1.out.box2;clear hc;go_wp2_with fail;go_roundw
   case rel =>
    refine⟨k+1,by go_num,by omega,zf2 HS1.bel (show w.heap.size<=w.heap.size+1+1 by omega) r,zwn HS1.out.box1 (by omega) r,?_,row12 HS1.out.row HNE.out r⟩
    rw[HE.out];exact zf1 HS1.box2 r
   case measure=>simp [intOf];omega
  ·have q:decide (r.chg<=m)=false:=by simpa using hc
   have HE:Hid ((L.take (k+1)).foldl (atM m) z2s=(L.take k).foldl (atM m) z2s):=hd_ (by rw[HN.out];unfold atM;rw[if_neg hc])
   clear hc;go_wp2_with fail;go_roundw
   exact⟨k+1,by go_num,by omega,HS1.bel,HS1.box1,by rw[HE.out];exact HS1.box2,HS1.row⟩
   simp [intOf];omega
 ·have hke:k=L.length:=by omega
  obtain⟨r,hr⟩:∃ r,(L.take k).foldl (atM m) z2s=r:=⟨_,rfl⟩;have HAR:Hid (rAt revs p m=r):=hd_ (by rw[HAT.out,<- hr,hke,ZH])
  have hB2:=HI.out.box2;rw[hr] at hB2;obtain⟨x0,x1,x2,x3,x4,x5,x6,x7,x8,x9,x10,x11⟩:=z57 hB2;obtain⟨y0,y1,y2,y3,y4,y5,y6,y7,y8,y9,y10,y11⟩:=zf0 HI.out.box1;obtain⟨z0,z1,z2,z3,z4,z5,z6,z7,z8,z9,z10,z11⟩:=z57 HI.out.box1;have hZ9:=zf1 HI.out.box1 r;have hB9:=zf2 HI.out.bel (show w.heap.size<=w.heap.size+1 by omega) r
  clear hke hr hB2;go_upto_region 8 with fail;refine wp_region_noPanic ?_;go_region_law (fail)
  all_goals
   refine NoPanic.normal ?_;go_wp2_with fail;have hZ8:=Blk.drew' hZ9;have hB8:=hB9.drew;generalize (((((((((((((wr.setCell ⟨w.heap.size+1,0,none⟩ (zS r.kt)).setCell ⟨w.heap.size+1,1,none⟩ (zI r.num)).setCell ⟨w.heap.size+1,2,none⟩ (zI r.chg)).setCell ⟨w.heap.size+1,3,none⟩ (zI r.act)).setCell ⟨w.heap.size+1,4,none⟩ (zI r.ty.base)).setCell ⟨w.heap.size+1,5,none⟩ (.bool r.ty.k)).setCell ⟨w.heap.size+1,6,none⟩ (.bool r.ty.l)).setCell ⟨w.heap.size+1,7,none⟩ (.bool r.ty.x)).setCell ⟨w.heap.size+1,8,none⟩ (.int .u64 r.sum)).setCell ⟨w.heap.size+1,9,none⟩ (zI r.size)).setCell ⟨w.heap.size+1,10,none⟩ (zS r.frm)).setCell ⟨w.heap.size+1,11,none⟩ (zI r.fnum))).drew=W9 at hZ8 hB8 |-;obtain⟨e0,e1,e2,e3,e4,e5,e6,e7,e8,e9,e10,e11⟩:=z57 hZ8;exact bodyPost_ret (v:=.tuple #[.agg #[zS r.kt,zI r.num,zI r.chg,zI r.act,zI r.ty.base,.bool r.ty.k,.bool r.ty.l,.bool r.ty.x,.int .u64 r.sum,zI r.size,zS r.frm,zI r.fnum],.bool (decide (0<r.num))]) (by simp [results,results28,go_sem,Act.put,e0,e1,e2,e3,e4,e5,e6,e7,e8,e9,e10,e11]) rfl ⟨by rw[HAR.out],hB8⟩
