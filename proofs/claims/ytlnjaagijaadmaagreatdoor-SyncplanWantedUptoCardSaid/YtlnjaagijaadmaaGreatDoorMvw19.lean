/- A part. -/
import Derived.Test.YtlnjaagijaadmaaGreatDoorMvw18
import Derived.Test.YtlnjaagijaadmaaGreatDoorMvw16
set_option linter.unusedVariables false
set_option linter.unusedSimpArgs false
set_option maxHeartbeats 8000000
set_option maxRecDepth 100000
namespace Go.Proofs.YtlnjaagijaadmaaGreatDoor
open Go.Proofs.Tryz
open Go.RowKit
section
variable {hs ws : List Hav} {op dt : List zA}
theorem z7s {α β:Type}{f g:α->Option β}:∀ {l:List α},(∀ x∈l,f x=g x)->l.filterMap f=l.filterMap g
 | [],_=>rfl
 | a :: l,h=>by
  rw[List.filterMap_cons,List.filterMap_cons,h a (Zj ..),z7s fun x hx=>h x (Zh _ hx)]
end
theorem zgf {w:zW}{g:Nat}{e:TypeId}{a b c d x:zV}(h:Blk w g e [a,b,c,d,x]):
  w.cell? ⟨g,0,none⟩=some a/\w.cell? ⟨g,1,none⟩=some b/\w.cell? ⟨g,2,none⟩=some c/\w.cell? ⟨g,3,none⟩=some d/\w.cell? ⟨g,4,none⟩=some x:=
 ⟨h.cell 0,h.cell 1,h.cell 2,h.cell 3,h.cell 4⟩
def zgg (n:Int)(x:Edt):Rev:=⟨x.kt,x.base+1,n,x.act,x.ty,x.sum,x.size,x.frm,x.fnum⟩
theorem zgh (num:Int)(cl tx:zA)(Ae Ac:zP)(ne nc ce cc:Nat)(x:Edt)(w:zW)(hb:0<=x.base/\x.base<=1000000):
  Calls prog 77 #[.agg #[zI num,zS cl,zS tx,zL Ae ne ce,zL Ac nc cc],.agg #[zS x.kt,zI x.act,zI x.ty.base,.bool x.ty.k,.bool x.ty.l,.bool x.ty.x,.int .u64 x.sum,zI x.size,zI x.base,zS x.frm,zI x.fnum,zI x.fence]] w fun e w'=>e=.returned (.agg #[zS (zgg num x).kt,zI (zgg num x).num,zI (zgg num x).chg,zI (zgg num x).act,zI (zgg num x).ty.base,.bool (zgg num x).ty.k,.bool (zgg num x).ty.l,.bool (zgg num x).ty.x,.int .u64 (zgg num x).sum,zI (zgg num x).size,zS (zgg num x).frm,zI (zgg num x).fnum])/\zB w w':=by
 have hb0:zB w (((w.alloc (zC #[zI num,zS cl,zS tx,zL Ae ne ce,zL Ac nc cc] 93)).alloc (zC #[zS x.kt,zI x.act,zI x.ty.base,.bool x.ty.k,.bool x.ty.l,.bool x.ty.x,.int .u64 x.sum,zI x.size,zI x.base,zS x.frm,zI x.fnum,zI x.fence] 88)).alloc (zC #[zS ⟨#[]⟩,zI 0,zI 0,zI 0,zI 0,.bool false,.bool false,.bool false,.int .u64 0,zI 0,zS ⟨#[]⟩,zI 0] 78)):=((zR).alloc (by simp) _).alloc (by simp;omega) _
 have hZ:Blk (((w.alloc (zC #[zI num,zS cl,zS tx,zL Ae ne ce,zL Ac nc cc] 93)).alloc (zC #[zS x.kt,zI x.act,zI x.ty.base,.bool x.ty.k,.bool x.ty.l,.bool x.ty.x,.int .u64 x.sum,zI x.size,zI x.base,zS x.frm,zI x.fnum,zI x.fence] 88)).alloc (zC #[zS ⟨#[]⟩,zI 0,zI 0,zI 0,zI 0,.bool false,.bool false,.bool false,.int .u64 0,zI 0,zS ⟨#[]⟩,zI 0] 78)) (w.heap.size+1+1) 78 [zS ⟨#[]⟩,zI 0,zI 0,zI 0,zI 0,.bool false,.bool false,.bool false,.int .u64 0,zI 0,zS ⟨#[]⟩,zI 0]:=by
  have h1:=z0l ((w.alloc (zC #[zI num,zS cl,zS tx,zL Ae ne ce,zL Ac nc cc] 93)).alloc (zC #[zS x.kt,zI x.act,zI x.ty.base,.bool x.ty.k,.bool x.ty.l,.bool x.ty.x,.int .u64 x.sum,zI x.size,zI x.base,zS x.frm,zI x.fnum,zI x.fence] 88)) [zS ⟨#[]⟩,zI 0,zI 0,zI 0,zI 0,.bool false,.bool false,.bool false,.int .u64 0,zI 0,zS ⟨#[]⟩,zI 0] 78;simp only[Zl] at h1
  exact h1
 have hV:Blk (((w.alloc (zC #[zI num,zS cl,zS tx,zL Ae ne ce,zL Ac nc cc] 93)).alloc (zC #[zS x.kt,zI x.act,zI x.ty.base,.bool x.ty.k,.bool x.ty.l,.bool x.ty.x,.int .u64 x.sum,zI x.size,zI x.base,zS x.frm,zI x.fnum,zI x.fence] 88)).alloc (zC #[zS ⟨#[]⟩,zI 0,zI 0,zI 0,zI 0,.bool false,.bool false,.bool false,.int .u64 0,zI 0,zS ⟨#[]⟩,zI 0] 78)) (w.heap.size+1) 88 [zS x.kt,zI x.act,zI x.ty.base,.bool x.ty.k,.bool x.ty.l,.bool x.ty.x,.int .u64 x.sum,zI x.size,zI x.base,zS x.frm,zI x.fnum,zI x.fence]:=by
  have h1:=(z0l (w.alloc (zC #[zI num,zS cl,zS tx,zL Ae ne ce,zL Ac nc cc] 93)) [zS x.kt,zI x.act,zI x.ty.base,.bool x.ty.k,.bool x.ty.l,.bool x.ty.x,.int .u64 x.sum,zI x.size,zI x.base,zS x.frm,zI x.fnum,zI x.fence] 88).alloc (zC #[zS ⟨#[]⟩,zI 0,zI 0,zI 0,zI 0,.bool false,.bool false,.bool false,.int .u64 0,zI 0,zS ⟨#[]⟩,zI 0] 78);simp only[Zl] at h1
  exact h1
 have hB:Blk (((w.alloc (zC #[zI num,zS cl,zS tx,zL Ae ne ce,zL Ac nc cc] 93)).alloc (zC #[zS x.kt,zI x.act,zI x.ty.base,.bool x.ty.k,.bool x.ty.l,.bool x.ty.x,.int .u64 x.sum,zI x.size,zI x.base,zS x.frm,zI x.fnum,zI x.fence] 88)).alloc (zC #[zS ⟨#[]⟩,zI 0,zI 0,zI 0,zI 0,.bool false,.bool false,.bool false,.int .u64 0,zI 0,zS ⟨#[]⟩,zI 0] 78)) w.heap.size 93 [zI num,zS cl,zS tx,zL Ae ne ce,zL Ac nc cc]:=((z0l w _ _).alloc _).alloc _;have b0:0<=x.base:=hb.1;have b1:x.base<=1000000:=hb.2;clear hb;go_enter func77,ntmps77;go_upto_region 1 with fail;generalize ((w.alloc (zC #[zI num,zS cl,zS tx,zL Ae ne ce,zL Ac nc cc] 93)).alloc (zC #[zS x.kt,zI x.act,zI x.ty.base,.bool x.ty.k,.bool x.ty.l,.bool x.ty.x,.int .u64 x.sum,zI x.size,zI x.base,zS x.frm,zI x.fnum,zI x.fence] 88)).alloc (zC #[zS ⟨#[]⟩,zI 0,zI 0,zI 0,zI 0,.bool false,.bool false,.bool false,.int .u64 0,zI 0,zS ⟨#[]⟩,zI 0] 78)=W1 at hb0 hZ hV hB |-;obtain⟨d0,d1,d2,d3,d4⟩:=zgf hB;obtain⟨c0,c1,c2,c3,c4,c5,c6,c7,c8,c9,c10,c11⟩:=z57 hV;obtain⟨z0,z1,z2,z3,z4,z5,z6,z7,z8,z9,z10,z11⟩:=z57 hZ;obtain⟨y0,y1,y2,y3,y4,y5,y6,y7,y8,y9,y10,y11⟩:=zf0 hZ;have HZ:=hd_ hZ;have Hb0:=hd_ hb0;clear hb0 hZ hV hB;go_wp2_with fail;have hZ3:=zf1 HZ.out (zgg num x);have hB3:=zf2 Hb0.out (show w.heap.size<=w.heap.size+1+1 by omega) (zgg num x)
 clear d0 d1 d2 d3 d4 c0 c1 c2 c3 c4 c5 c6 c7 c8 c9 c10 c11 z0 z1 z2 z3 z4 z5 z6 z7 z8 z9 z10 z11 y0 y1 y2 y3 y4 y5 y6 y7 y8 y9 y10 y11;have e:((((((((((((W1.setCell ⟨w.heap.size+1+1,0,none⟩ (zS (zgg num x).kt)).setCell ⟨w.heap.size+1+1,1,none⟩ (zI (zgg num x).num)).setCell ⟨w.heap.size+1+1,2,none⟩ (zI (zgg num x).chg)).setCell ⟨w.heap.size+1+1,3,none⟩ (zI (zgg num x).act)).setCell ⟨w.heap.size+1+1,4,none⟩ (zI (zgg num x).ty.base)).setCell ⟨w.heap.size+1+1,5,none⟩ (.bool (zgg num x).ty.k)).setCell ⟨w.heap.size+1+1,6,none⟩ (.bool (zgg num x).ty.l)).setCell ⟨w.heap.size+1+1,7,none⟩ (.bool (zgg num x).ty.x)).setCell ⟨w.heap.size+1+1,8,none⟩ (.int .u64 (zgg num x).sum)).setCell ⟨w.heap.size+1+1,9,none⟩ (zI (zgg num x).size)).setCell ⟨w.heap.size+1+1,10,none⟩ (zS (zgg num x).frm)).setCell ⟨w.heap.size+1+1,11,none⟩ (zI (zgg num x).fnum))=((((((((((((W1.setCell ⟨w.heap.size+1+1,0,none⟩ (zS ((⟨x.kt,x.base+1,num,x.act,x.ty,x.sum,x.size,x.frm,x.fnum⟩:Rev)).kt)).setCell ⟨w.heap.size+1+1,1,none⟩ (zI ((⟨x.kt,x.base+1,num,x.act,x.ty,x.sum,x.size,x.frm,x.fnum⟩:Rev)).num)).setCell ⟨w.heap.size+1+1,2,none⟩ (zI ((⟨x.kt,x.base+1,num,x.act,x.ty,x.sum,x.size,x.frm,x.fnum⟩:Rev)).chg)).setCell ⟨w.heap.size+1+1,3,none⟩ (zI ((⟨x.kt,x.base+1,num,x.act,x.ty,x.sum,x.size,x.frm,x.fnum⟩:Rev)).act)).setCell ⟨w.heap.size+1+1,4,none⟩ (zI ((⟨x.kt,x.base+1,num,x.act,x.ty,x.sum,x.size,x.frm,x.fnum⟩:Rev)).ty.base)).setCell ⟨w.heap.size+1+1,5,none⟩ (.bool ((⟨x.kt,x.base+1,num,x.act,x.ty,x.sum,x.size,x.frm,x.fnum⟩:Rev)).ty.k)).setCell ⟨w.heap.size+1+1,6,none⟩ (.bool ((⟨x.kt,x.base+1,num,x.act,x.ty,x.sum,x.size,x.frm,x.fnum⟩:Rev)).ty.l)).setCell ⟨w.heap.size+1+1,7,none⟩ (.bool ((⟨x.kt,x.base+1,num,x.act,x.ty,x.sum,x.size,x.frm,x.fnum⟩:Rev)).ty.x)).setCell ⟨w.heap.size+1+1,8,none⟩ (.int .u64 ((⟨x.kt,x.base+1,num,x.act,x.ty,x.sum,x.size,x.frm,x.fnum⟩:Rev)).sum)).setCell ⟨w.heap.size+1+1,9,none⟩ (zI ((⟨x.kt,x.base+1,num,x.act,x.ty,x.sum,x.size,x.frm,x.fnum⟩:Rev)).size)).setCell ⟨w.heap.size+1+1,10,none⟩ (zS ((⟨x.kt,x.base+1,num,x.act,x.ty,x.sum,x.size,x.frm,x.fnum⟩:Rev)).frm)).setCell ⟨w.heap.size+1+1,11,none⟩ (zI ((⟨x.kt,x.base+1,num,x.act,x.ty,x.sum,x.size,x.frm,x.fnum⟩:Rev)).fnum)):=rfl
 dsimp only at e
 rw[<- e];generalize ((((((((((((W1.setCell ⟨w.heap.size+1+1,0,none⟩ (zS (zgg num x).kt)).setCell ⟨w.heap.size+1+1,1,none⟩ (zI (zgg num x).num)).setCell ⟨w.heap.size+1+1,2,none⟩ (zI (zgg num x).chg)).setCell ⟨w.heap.size+1+1,3,none⟩ (zI (zgg num x).act)).setCell ⟨w.heap.size+1+1,4,none⟩ (zI (zgg num x).ty.base)).setCell ⟨w.heap.size+1+1,5,none⟩ (.bool (zgg num x).ty.k)).setCell ⟨w.heap.size+1+1,6,none⟩ (.bool (zgg num x).ty.l)).setCell ⟨w.heap.size+1+1,7,none⟩ (.bool (zgg num x).ty.x)).setCell ⟨w.heap.size+1+1,8,none⟩ (.int .u64 (zgg num x).sum)).setCell ⟨w.heap.size+1+1,9,none⟩ (zI (zgg num x).size)).setCell ⟨w.heap.size+1+1,10,none⟩ (zS (zgg num x).frm)).setCell ⟨w.heap.size+1+1,11,none⟩ (zI (zgg num x).fnum))=W3 at hZ3 hB3 |-;obtain⟨e0,e1,e2,e3,e4,e5,e6,e7,e8,e9,e10,e11⟩:=z57 hZ3;refine bodyPost_ret (v:=.agg #[zS (zgg num x).kt,zI (zgg num x).num,zI (zgg num x).chg,zI (zgg num x).act,zI (zgg num x).ty.base,.bool (zgg num x).ty.k,.bool (zgg num x).ty.l,.bool (zgg num x).ty.x,.int .u64 (zgg num x).sum,zI (zgg num x).size,zS (zgg num x).frm,zI (zgg num x).fnum]) (by simp [results,results77,go_sem,e0,e1,e2,e3,e4,e5,e6,e7,e8,e9,e10,e11]) rfl ⟨rfl,hB3⟩
def zgi (revs:List Rev)(p:zA):Bool:=match zfc revs p with
 | none=>false
 | some r=>z32 r.act
theorem zgj {revs:List Rev}{p:zA}:(zfc revs p=none->zgi revs p=false)/\∀ r,zfc revs p=some r->zgi revs p=z32 r.act:=by
 unfold zgi;exact⟨fun h=>by rw[h],fun r h=>by rw[h]⟩
theorem zgk (revs:List Rev)(p:zA)(dv dr:zV)(w:zW)(hR:z3w w dv revs)(hl:revs.length<=1000000):
  Calls prog 79 #[.agg #[dv,dr],zS p] w fun e w'=>e=.returned (.tuple #[.bool (zgi revs p),zI (zf8 (zfc revs p)).num])/\zB w w':=by
 obtain⟨Ar,cr,rfl,-⟩:=id hR;have HR:=hd_ hR;clear hR;have HAT:=hd_ (@zgj revs p);go_enter func79,ntmps79;have hb0:zB w (w.alloc (zC #[zL Ar revs.length cr,dr] 27)):=zR;have hB:=z0l w [zL Ar revs.length cr,dr] 27;go_upto_region 1 with fail;generalize w.alloc (zC #[zL Ar revs.length cr,dr] 27)=W1 at hb0 hB |-;obtain⟨d0,d1,-,-⟩:=box2 hB;have HLS:=hd_ (zfl revs p (zL Ar revs.length cr) dr W1 (HR.kw hb0) hl);have Hb0:=hd_ hb0;clear hb0 hB;go_wp2_with fail;refine HLS.mono ?_;rintro e w2 ⟨rfl,hb2⟩;clear d0 d1 HLS;have HB2:=hd_ hb2;clear hb2;generalize hro:zfc revs p=o at HAT |-;have HRO:=hd_ hro;clear hro;cases o with
 | none =>
  have HN:=hd_ (HAT.1 rfl);have hY:=z0l w2 [zS z2s.kt,zI z2s.num,zI z2s.chg,zI z2s.act,zI z2s.ty.base,.bool z2s.ty.k,.bool z2s.ty.l,.bool z2s.ty.x,.int .u64 z2s.sum,zI z2s.size,zS z2s.frm,zI z2s.fnum] 78;have hA5:zB w (w2.alloc (zC #[zS z2s.kt,zI z2s.num,zI z2s.chg,zI z2s.act,zI z2s.ty.base,.bool z2s.ty.k,.bool z2s.ty.l,.bool z2s.ty.x,.int .u64 z2s.sum,zI z2s.size,zS z2s.frm,zI z2s.fnum] 78)):=z0r Hb0 (z0t HB2 _);have hsu:zf8 none=z2s:=rfl;go_upto_region 2 with fail;clear hsu HAT;generalize w2.alloc (zC #[zS z2s.kt,zI z2s.num,zI z2s.chg,zI z2s.act,zI z2s.ty.base,.bool z2s.ty.k,.bool z2s.ty.l,.bool z2s.ty.x,.int .u64 z2s.sum,zI z2s.size,zS z2s.frm,zI z2s.fnum] 78)=V3 at hY hA5 |-;obtain⟨b0,b1,b2,b3,b4,b5,b6,b7,b8,b9,b10,b11⟩:=z57 hY;have HA5:=hd_ hA5;clear hY hA5;go_quiet (fail)
  go_wp2_with fail;go_ret2;exact⟨by rw[HN.out,HRO.out];rfl,z0p HA5 _⟩
 | some r =>
  have HN:=hd_ (HAT.2 r rfl);have hY:=z0l w2 [zS r.kt,zI r.num,zI r.chg,zI r.act,zI r.ty.base,.bool r.ty.k,.bool r.ty.l,.bool r.ty.x,.int .u64 r.sum,zI r.size,zS r.frm,zI r.fnum] 78;have hA5:zB w (w2.alloc (zC #[zS r.kt,zI r.num,zI r.chg,zI r.act,zI r.ty.base,.bool r.ty.k,.bool r.ty.l,.bool r.ty.x,.int .u64 r.sum,zI r.size,zS r.frm,zI r.fnum] 78)):=z0r Hb0 (z0t HB2 _);have hsu:zf8 (some r)=r:=rfl;go_upto_region 2 with fail;clear hsu HAT;generalize w2.alloc (zC #[zS r.kt,zI r.num,zI r.chg,zI r.act,zI r.ty.base,.bool r.ty.k,.bool r.ty.l,.bool r.ty.x,.int .u64 r.sum,zI r.size,zS r.frm,zI r.fnum] 78)=V3 at hY hA5 |-;generalize w2.heap.size=g6 at hY |-;have HY:=hd_ hY;have HA5:=hd_ hA5;obtain⟨b0,b1,b2,b3,b4,b5,b6,b7,b8,b9,b10,b11⟩:=z57 hY;have HGO:=hd_ (fun X=>zge r X);clear hY hA5;refine wp_region_noPanic ?_;first
   | go_region_law (go_simp;go_at_call 30;refine (HGO _).mono ?_;rintro e w5 ⟨rfl,hX5⟩;have hS5:zB V3 w5:=(Zb _ _).drew.trans hX5;obtain⟨k0,k1,k2,k3,k4,k5,k6,k7,k8,k9,k10,k11⟩:=z57 (HY.out.kw hS5 HY.out.lt))
   | fail
  all_goals
   refine NoPanic.normal ?_;go_wp2_with fail;go_ret2;exact⟨by rw[HN.out,HRO.out];cases z32 r.act <;> rfl,z0r HA5 hS5⟩
theorem at_fn (m:Int)(B:Nat)(r:Rev)(w:zW)(hB:w.cell? ⟨B,0,none⟩=some (zI m)):Calls prog 54 #[.agg #[zS r.kt,zI r.num,zI r.chg,zI r.act,zI r.ty.base,.bool r.ty.k,.bool r.ty.l,.bool r.ty.x,.int .u64 r.sum,zI r.size,zS r.frm,zI r.fnum],.pointer (some ⟨B,0,none⟩)] w fun e w'=>e=.returned (.bool ((fun v:Rev=>decide (v.chg<=m)) r))/\zB w w':=by
 have hBl:=z03 hB;go_enter func54,ntmps54;go_wp2_with fail;go_ret;exact⟨z12 (rfl),zR⟩
theorem zh2 (revs:List Rev)(q:zA)(m:Int)(B:Nat)(dv dr:zV)(w:zW)(hR:z3w w dv revs)(hB:w.cell? ⟨B,0,none⟩=some (zI m))(hl:revs.length<=1000000):
  Calls prog 53 #[.agg #[dv,dr],zS q,.func (.func 54) #[] #[.pointer (some ⟨B,0,none⟩)]] w
   fun e w'=>e=.returned (.tuple #[.agg #[zS (zf8 (z38 revs q (fun v:Rev=>decide (v.chg<=m)))).kt,zI (zf8 (z38 revs q (fun v:Rev=>decide (v.chg<=m)))).num,zI (zf8 (z38 revs q (fun v:Rev=>decide (v.chg<=m)))).chg,zI (zf8 (z38 revs q (fun v:Rev=>decide (v.chg<=m)))).act,zI (zf8 (z38 revs q (fun v:Rev=>decide (v.chg<=m)))).ty.base,.bool (zf8 (z38 revs q (fun v:Rev=>decide (v.chg<=m)))).ty.k,.bool (zf8 (z38 revs q (fun v:Rev=>decide (v.chg<=m)))).ty.l,.bool (zf8 (z38 revs q (fun v:Rev=>decide (v.chg<=m)))).ty.x,.int .u64 (zf8 (z38 revs q (fun v:Rev=>decide (v.chg<=m)))).sum,zI (zf8 (z38 revs q (fun v:Rev=>decide (v.chg<=m)))).size,zS (zf8 (z38 revs q (fun v:Rev=>decide (v.chg<=m)))).frm,zI (zf8 (z38 revs q (fun v:Rev=>decide (v.chg<=m)))).fnum],.bool (z38 revs q (fun v:Rev=>decide (v.chg<=m))).isSome])/\zB w w':=by
 obtain⟨Ar,cr,rfl,hcr,hmr,-⟩:=id hR;have HR:=hd_ hR;clear hR;unfold maxLen at hmr;rw[zf7];have HF:=hd_ (fun(r:Rev) (W:zW) (hb:zB w W)=>at_fn m B r W (z04 hB hb (z03 hB)));have hb0:zB w (((w.alloc (zC #[zL Ar revs.length cr,dr] 27)).alloc (zC #[zS ⟨#[]⟩,zI 0,zI 0,zI 0,zI 0,.bool false,.bool false,.bool false,.int .u64 0,zI 0,zS ⟨#[]⟩,zI 0] 78)).alloc (zC #[zS ⟨#[]⟩,zI 0,zI 0,zI 0,zI 0,.bool false,.bool false,.bool false,.int .u64 0,zI 0,zS ⟨#[]⟩,zI 0] 78)):=((zR).alloc (by simp) _).alloc (by simp;omega) _
 generalize (fun v:Rev=>decide (v.chg<=m))=p at HF |-;go_enter func53,ntmps53;go_wp2_with fail;go_loopw [9,15] (fun o i wr=>∃(k:Nat),k<=revs.length/\i=zI k/\zB w wr/\o=.bool ((revs.take k).foldl (zf6 q p) none).isSome/\Blk wr (w.heap.size+1) 78 [zS ⟨#[]⟩,zI 0,zI 0,zI 0,zI 0,.bool false,.bool false,.bool false,.int .u64 0,zI 0,zS ⟨#[]⟩,zI 0]/\Blk wr (w.heap.size+1+1) 78 [zS (zf8 ((revs.take k).foldl (zf6 q p) none)).kt,zI (zf8 ((revs.take k).foldl (zf6 q p) none)).num,zI (zf8 ((revs.take k).foldl (zf6 q p) none)).chg,zI (zf8 ((revs.take k).foldl (zf6 q p) none)).act,zI (zf8 ((revs.take k).foldl (zf6 q p) none)).ty.base,.bool (zf8 ((revs.take k).foldl (zf6 q p) none)).ty.k,.bool (zf8 ((revs.take k).foldl (zf6 q p) none)).ty.l,.bool (zf8 ((revs.take k).foldl (zf6 q p) none)).ty.x,.int .u64 (zf8 ((revs.take k).foldl (zf6 q p) none)).sum,zI (zf8 ((revs.take k).foldl (zf6 q p) none)).size,zS (zf8 ((revs.take k).foldl (zf6 q p) none)).frm,zI (zf8 ((revs.take k).foldl (zf6 q p) none)).fnum]) (fun _ i _=>revs.length - (intOf i).toNat)
 case atStart =>
  refine⟨0,Zg _,rfl,hb0,rfl,?_,?_⟩
  ·have:=z0l (w.alloc (zC #[zL Ar revs.length cr,dr] 27)) [zS ⟨#[]⟩,zI 0,zI 0,zI 0,zI 0,.bool false,.bool false,.bool false,.int .u64 0,zI 0,zS ⟨#[]⟩,zI 0] 78;have:=this.alloc (zC #[zS ⟨#[]⟩,zI 0,zI 0,zI 0,zI 0,.bool false,.bool false,.bool false,.int .u64 0,zI 0,zS ⟨#[]⟩,zI 0] 78);simpa using this
  ·have:=z0l ((w.alloc (zC #[zL Ar revs.length cr,dr] 27)).alloc (zC #[zS ⟨#[]⟩,zI 0,zI 0,zI 0,zI 0,.bool false,.bool false,.bool false,.int .u64 0,zI 0,zS ⟨#[]⟩,zI 0] 78)) [zS ⟨#[]⟩,zI 0,zI 0,zI 0,zI 0,.bool false,.bool false,.bool false,.int .u64 0,zI 0,zS ⟨#[]⟩,zI 0] 78;simp only[Zl] at this
   exact this
 obtain⟨k,hk,rfl,hbr,rfl,hZ,hF⟩:=hrel;by_cases hlt:k<revs.length
 ·obtain⟨ad,rfl,hab,hld⟩:=z3w.at_ (HR.out.kw hbr) hlt;have HT:=hd_ (show revs.take (k+1)=revs.take k++[revs[k]] from Zr hlt);have HG:Hid ((revs.take (k+1)).foldl (zf6 q p) none=zf6 q p ((revs.take k).foldl (zf6 q p) none) revs[k]):=hd_ (by rw[HT.out,List.foldl_append];rfl)
  generalize revs[k]=r at hld HT HG;generalize (revs.take k).foldl (zf6 q p) none=o at hF HG;obtain⟨x0,x1,x2,x3,x4,x5,x6,x7,x8,x9,x10,x11⟩:=hld;have hbx:=hbr.alloc hbr.size (zC #[zS r.kt,zI r.num,zI r.chg,zI r.act,zI r.ty.base,.bool r.ty.k,.bool r.ty.l,.bool r.ty.x,.int .u64 r.sum,zI r.size,zS r.frm,zI r.fnum] 78);have hZx:=hZ.alloc (zC #[zS r.kt,zI r.num,zI r.chg,zI r.act,zI r.ty.base,.bool r.ty.k,.bool r.ty.l,.bool r.ty.x,.int .u64 r.sum,zI r.size,zS r.frm,zI r.fnum] 78);have hFx:=hF.alloc (zC #[zS r.kt,zI r.num,zI r.chg,zI r.act,zI r.ty.base,.bool r.ty.k,.bool r.ty.l,.bool r.ty.x,.int .u64 r.sum,zI r.size,zS r.frm,zI r.fnum] 78);have hX:=z0l wr [zS r.kt,zI r.num,zI r.chg,zI r.act,zI r.ty.base,.bool r.ty.k,.bool r.ty.l,.bool r.ty.x,.int .u64 r.sum,zI r.size,zS r.frm,zI r.fnum] 78;by_cases hp:r.kt=q
  ·have HC:=hd_ (HF r (wr.alloc (zC #[zS r.kt,zI r.num,zI r.chg,zI r.act,zI r.ty.base,.bool r.ty.k,.bool r.ty.l,.bool r.ty.x,.int .u64 r.sum,zI r.size,zS r.frm,zI r.fnum] 78)) hbx);cases hpr:p r
   ·rw[hpr] at HC;have HS:Hid (zf6 q p o r=o):=hd_ (by unfold zf6;rw[hpr];simp)
    clear hpr;subst hp;go_wp2_with fail;refine HC.mono ?_;rintro e w2 ⟨rfl,hb2⟩;go_wp2_with fail;go_roundw
    exact⟨k+1,by omega,by go_num,z0r hbx hb2,by rw[HG.out,HS.out],hZx.kw hb2 hZx.lt,by rw[HG.out,HS.out];exact hFx.kw hb2 hFx.lt⟩
    simp [intOf];omega
   ·rw[hpr] at HC;have hnew:∀ b:Bool,o.isSome=false\/(zf8 o).num<r.num->zf6 q p o r=some r:=by
     intro b h;unfold zf6;rw[if_pos ⟨hp,hpr⟩];cases o with
     | none=>rfl
     | some x =>
      rcases h with h | h
      ·cases h
      ·exact if_pos h
    have hold:o.isSome=true->¬(zf8 o).num<r.num->zf6 q p o r=o:=by
     intro h1 h2;unfold zf6;rw[if_pos ⟨hp,hpr⟩];cases o with
     | none=>cases h1
     | some x=>exact if_neg h2
    clear hpr;subst hp;by_cases hn:o.isSome=false\/(zf8 o).num<r.num
    ·have HS:=hd_ (hnew true hn);clear hnew hold;cases hos:o.isSome
     ·clear hn;go_wp2_with fail;refine HC.mono ?_;rintro e w2 ⟨rfl,hb2⟩;have hX2:=hX.kw hb2 hX.lt;have hF2:=hFx.kw hb2 hFx.lt;have hZ2:=hZx.kw hb2 hZx.lt;have hbw2:=z0r hbx hb2;obtain⟨c0,c1,c2,c3,c4,c5,c6,c7,c8,c9,c10,c11⟩:=z57 hX2;obtain⟨f0,f1,f2,f3,f4,f5,f6,f7,f8,f9,f10,f11⟩:=z57 hF2;obtain⟨y0,y1,y2,y3,y4,y5,y6,y7,y8,y9,y10,y11⟩:=zf0 hF2;clear hb2;have hF3:=zf1 hF2 r;have hB3:=zf2 hbw2 (show w.heap.size<=w.heap.size+1+1 by omega) r
      have hZ3:=zwn hZ2 (show w.heap.size+1+1≠w.heap.size+1 by omega) r
      go_wp2_with fail;go_roundw
      exact⟨k+1,by omega,by go_num,hB3,by rw[HG.out,HS.out];rfl,hZ3,by rw[HG.out,HS.out];exact hF3⟩
      simp [intOf];omega
     ·have hn2:(zf8 o).num<r.num:=by rcases hn with h | h;(rw[hos] at h;cases h);exact h
      clear hn;go_wp2_with fail;refine HC.mono ?_;rintro e w2 ⟨rfl,hb2⟩;have hX2:=hX.kw hb2 hX.lt;have hF2:=hFx.kw hb2 hFx.lt;have hZ2:=hZx.kw hb2 hZx.lt;have hbw2:=z0r hbx hb2;obtain⟨c0,c1,c2,c3,c4,c5,c6,c7,c8,c9,c10,c11⟩:=z57 hX2;obtain⟨f0,f1,f2,f3,f4,f5,f6,f7,f8,f9,f10,f11⟩:=z57 hF2;obtain⟨y0,y1,y2,y3,y4,y5,y6,y7,y8,y9,y10,y11⟩:=zf0 hF2;clear hb2;have hF3:=zf1 hF2 r;have hB3:=zf2 hbw2 (show w.heap.size<=w.heap.size+1+1 by omega) r
      have hZ3:=zwn hZ2 (show w.heap.size+1+1≠w.heap.size+1 by omega) r
      go_wp2_with fail;go_roundw
      exact⟨k+1,by omega,by go_num,hB3,by rw[HG.out,HS.out];rfl,hZ3,by rw[HG.out,HS.out];exact hF3⟩
      simp [intOf];omega
    ·rw[not_or] at hn;have hos:o.isSome=true:=by
      cases h:o.isSome
      ·exact absurd h hn.1
      ·rfl
     have hn2:¬(zf8 o).num<r.num:=hn.2;have HS:=hd_ (hold hos hn2);clear hnew hold hn;go_wp2_with fail;refine HC.mono ?_;rintro e w2 ⟨rfl,hb2⟩;have hX2:=hX.kw hb2 hX.lt;have hF2:=hFx.kw hb2 hFx.lt;have hZ2:=hZx.kw hb2 hZx.lt;have hbw2:=z0r hbx hb2;obtain⟨c0,c1,c2,c3,c4,c5,c6,c7,c8,c9,c10,c11⟩:=z57 hX2;obtain⟨f0,f1,f2,f3,f4,f5,f6,f7,f8,f9,f10,f11⟩:=z57 hF2;clear hb2;go_wp2_with fail;go_roundw
     exact⟨k+1,by omega,by go_num,hbw2,by rw[HG.out,HS.out,hos],hZ2,by rw[HG.out,HS.out];exact hF2⟩
     simp [intOf];omega
  ·have HS:Hid (zf6 q p o r=o):=hd_ (by unfold zf6;rw[if_neg (fun h=>hp h.1)])
   have sq:=zev r.kt q;rw[show decide (r.kt=q)=false by simpa using hp] at sq
   clear hp;go_wp2_with fail;go_roundw
   exact⟨k+1,by omega,by go_num,hbx,by rw[HG.out,HS.out],hZx,by rw[HG.out,HS.out];exact hFx⟩
   simp [intOf];omega
 ·rw[ZQ (by omega)] at hF |-
  obtain⟨o,ho⟩:∃ o,revs.foldl (zf6 q p) none=o:=⟨_,rfl⟩;rw[ho] at hF |-;obtain⟨r,hr⟩:∃ r,zf8 o=r:=⟨_,rfl⟩;rw[hr] at hF;have HO:=hd_ ho;have HR2:=hd_ hr;clear ho hr;obtain⟨f0,f1,f2,f3,f4,f5,f6,f7,f8,f9,f10,f11⟩:=z57 hF;obtain⟨z0,z1,z2,z3,z4,z5,z6,z7,z8,z9,z10,z11⟩:=z57 hZ;obtain⟨y0,y1,y2,y3,y4,y5,y6,y7,y8,y9,y10,y11⟩:=zf0 hZ;go_wp2_with fail;have hZ3:=zf1 hZ r;have hB3:=zf2 hbr (show w.heap.size<=w.heap.size+1 by omega) r
  generalize ((((((((((((wr.setCell ⟨w.heap.size+1,0,none⟩ (zS r.kt)).setCell ⟨w.heap.size+1,1,none⟩ (zI r.num)).setCell ⟨w.heap.size+1,2,none⟩ (zI r.chg)).setCell ⟨w.heap.size+1,3,none⟩ (zI r.act)).setCell ⟨w.heap.size+1,4,none⟩ (zI r.ty.base)).setCell ⟨w.heap.size+1,5,none⟩ (.bool r.ty.k)).setCell ⟨w.heap.size+1,6,none⟩ (.bool r.ty.l)).setCell ⟨w.heap.size+1,7,none⟩ (.bool r.ty.x)).setCell ⟨w.heap.size+1,8,none⟩ (.int .u64 r.sum)).setCell ⟨w.heap.size+1,9,none⟩ (zI r.size)).setCell ⟨w.heap.size+1,10,none⟩ (zS r.frm)).setCell ⟨w.heap.size+1,11,none⟩ (zI r.fnum))=W3 at hZ3 hB3 |-;obtain⟨e0,e1,e2,e3,e4,e5,e6,e7,e8,e9,e10,e11⟩:=z57 hZ3;exact bodyPost_ret (v:=.tuple #[.agg #[zS r.kt,zI r.num,zI r.chg,zI r.act,zI r.ty.base,.bool r.ty.k,.bool r.ty.l,.bool r.ty.x,.int .u64 r.sum,zI r.size,zS r.frm,zI r.fnum],.bool o.isSome]) (by simp [results,results53,go_sem,e0,e1,e2,e3,e4,e5,e6,e7,e8,e9,e10,e11]) rfl ⟨by rw[HO.out,HR2.out],hB3⟩
def zim:List zA:=[⟨#[47,47,99,47,97]⟩,⟨#[47,47,99,47,98]⟩,⟨#[47,47,99,47,120,47,97]⟩,⟨#[47,47,99,47,120,47,98]⟩,⟨#[47,47,119,47,97]⟩,⟨#[47,47,99,47,101]⟩,⟨#[47,47,99,47,120,47,122]⟩,⟨#[47,47,113,47,113]⟩]
theorem zin:∀ p∈zim,z5f p=true:=by decide +kernel
structure zio (x y:Hav):Prop where
 kt:y.kt=x.kt
 loc:z5f y.loc=true
 num:1<=y.num/\y.num<=x.num+1
structure HvSt (l:List Hav)(k:Nat)(out:List Hav):Prop where
 srt:z7h out
 ok:∀ x∈out,x.okB=true
 one:∀ x∈out,∀ y∈out,x.loc=y.loc->x.kt=y.kt
 of:∀ x∈out,∃(j:Nat) (hj:j<l.length),j<k/\x.kt=l[j].kt
 len:out.length<=k
theorem hv_0 (l:List Hav):HvSt l 0 []:=⟨List.Pairwise.nil,(fun x h=>by cases h),(fun x h=>by cases h),(fun x h=>by cases h),Zd _⟩
theorem hv_skip {l out:List Hav}{k:Nat}(h:HvSt l k out):HvSt l (k+1) out:=
 ⟨h.srt,h.ok,h.one,(fun x hx=>by obtain⟨j,hj,h1,h2⟩:=h.of x hx;exact⟨j,hj,by omega,h2⟩),Nat.le_succ_of_le h.len⟩
theorem hv_put {l out:List Hav}{k:Nat}{y:Hav}(h:HvSt l k out)(hl:z81 l)(hk:k<l.length)(hy:zio l[k] y)(hn:∀ x∈out,x.loc≠y.loc):HvSt l (k+1) (out++[y]):=by
 refine⟨?_,fun x hx=>?_,fun a ha b hb e=>?_,fun x hx=>?_,by rw[Zc];exact Nat.succ_le_succ h.len⟩
 ·refine z7d h.srt (List.pairwise_singleton _ _) fun a ha b hb=>?_;rw[Zm] at hb;subst hb;obtain⟨j,hj,h1,h2⟩:=h.of a ha;rw[h2,hy.kt];exact List.pairwise_iff_getElem.1 hl.srt j k hj hk h1
 ·rcases Zy.1 hx with hx | hx
  ·exact h.ok x hx
  ·rw[Zm] at hx;subst hx;have h0:=z82 (hl.ok _ (Za hk));unfold Hav.okB;rw[hy.kt,h0.1,hy.loc];have:=hy.num.1;simp
   omega
 ·rcases Zy.1 ha with ha1 | ha1
  ·rcases Zy.1 hb with hb1 | hb1
   ·exact h.one a ha1 b hb1 e
   ·rw[Zm] at hb1;rw[hb1] at e;exact absurd e (hn a ha1)
  ·rw[Zm] at ha1;rcases Zy.1 hb with hb1 | hb1
   ·rw[ha1] at e;exact absurd e.symm (hn b hb1)
   ·rw[Zm] at hb1;rw[ha1,hb1]
 ·rcases Zy.1 hx with hx | hx
  ·obtain⟨j,hj,h1,h2⟩:=h.of x hx;exact⟨j,hj,by omega,h2⟩
  ·rw[Zm] at hx;subst hx;exact⟨k,hk,by omega,hy.kt⟩
theorem hv_end {l out:List Hav}{k:Nat}(h:HvSt l k out):z81 out:=⟨h.srt,h.ok,h.one⟩
open Go.Sort (grow)
theorem z49.grown_own {S:List Nat}{w W w':zW}{row:Option Nat}(h:z49 S w W)(hg:W.grownBy w' row)(hr:∀ k,row=some k->w.heap.size<=k):z49 S w w':=
 ⟨hg.os.trans h.os,hg.tape.trans h.tape,hg.output.trans h.output,Zf h.size hg.size,fun k hk hs=>(hg.block k (Zq hk h.size) (fun e=>by have:=hr k e.symm;omega)).trans (h.block k hk hs)⟩
theorem z49.ku {S:List Nat}{w W w':zW}(h:z49 S w W)(hb:zB W w'):z49 S w w':=h.trans (z49.kw hb)
theorem ziq {S:List Nat}{w w':zW}{B:Nat}{e:TypeId}{size n:Nat}{v:zV}{xs:List zV}(h:w.ownsRow B e size v n xs)(hK:z49 S w w')(hS:∀ x,v.ownBlock=some x->x∉S):w'.ownsRow B e size v n xs:=by
 refine⟨h.1,?_⟩;rcases h.2 with e1 | ⟨g,cap,cur,e1,h1,h2,h3⟩
 ·exact .inl e1
 ·exact .inr ⟨g,cap,cur,e1,h1,(hK.block g (ZC.1 h2).1 (hS g (by rw[e1];rfl))).trans h2,h3⟩
def zir (D:List Rev):Int:=(D.getLast?.map (·.chg)).getD 0
theorem zis {D:List Rev}{k:Nat}(hk:D.length=k+1):zir D=(D[k]'(by omega)).chg:=by
 have e:D.getLast? = some (D[k]'(by omega)):=by
  rw[List.getLast?_eq_getElem?,show D.length - 1=k by omega,Ze]
 unfold zir;rw[e];rfl
theorem zit (D:List Rev)(dv dr:zV)(w:zW)(hR:z3w w dv D)(hl:D.length<=1000000):Calls prog 13 #[.agg #[dv,dr]] w fun e w'=>e=.returned (zI (zir D))/\zB w w':=by
 obtain⟨A,c,rfl,-⟩:=id hR;have hB:=z0l w [zL A D.length c,dr] 27;have hA:zB w (w.alloc (zC #[zL A D.length c,dr] 27)):=zR;have HR:=hd_ (hR.kw hA);have HA:=hd_ hA;clear hR hA;go_enter func13,ntmps13;go_upto_region 1 with fail;generalize w.alloc (zC #[zL A D.length c,dr] 27)=W1 at hB HR HA |-;have d0:W1.cell? ⟨w.heap.size,0,none⟩=some (.slice A D.length c):=hB.cell 0;clear hB;rcases ZU D.length with h0 | h0
 ·have hD:D=[]:=Zt h0;subst hD;have HT:Hid (zir []=0):=hd_ rfl;go_wp2_with fail;go_ret;exact⟨z3b HT.symm,HA⟩
 ·obtain⟨k,hk⟩:∃ k,D.length=k+1:=⟨D.length - 1,by omega⟩
  obtain⟨ad,rfl,hab,hc⟩:=HR.out.at_ (k:=k) (by omega)
  have HT:=hd_ (zis hk);generalize D[k]=r at hc HT;obtain⟨-,-,c2,-⟩:=hc;have q0:((D.length:Int) == 0)=false:=by rw[beq_eq_false_iff_ne];omega
  have q1:IntKind.i64.wrap ((D.length:Int) - 1)=(k:Int):=by rw[IntKind.wrap_i64];omega
  have q2:¬((k:Int)<0):=by omega
  have q3:(k:Int)<(D.length:Int):=by omega
  have q4:¬ D=[]:=by rintro rfl;simp at hk
  clear hk h0 hl;go_wp2_with fail;go_ret;exact⟨z3b HT.symm,HA⟩
theorem ziu (w:zW):Calls prog 16 #[] w fun e w'=>e=.returned (zL (some ⟨w.heap.size,0,none⟩) 6 6)/\w'=w.alloc (.cells (z8e.map Value.string).toArray 9):=by
 go_enter func16,ntmps16;go_wp2_with fail;go_ret;exact⟨rfl,rfl⟩
theorem ziv (w:zW):Calls prog 17 #[] w fun e w'=>e=.returned (zL (some ⟨w.heap.size,0,none⟩) 8 8)/\w'=w.alloc (.cells (zim.map Value.string).toArray 9):=by
 go_enter func17,ntmps17;go_wp2_with fail;go_ret;exact⟨rfl,rfl⟩
theorem strElem:z0e prog 29 9 1 16:=z0f underlying29 (z:=zS ⟨#[]⟩) (by kernel_rfl) rfl (by decide)
theorem hI_lt {w:zW}{B g:Nat}{e:TypeId}{size n:Nat}{v:zV}{xs:List zV}(h:w.ownsRow B e size v n xs)(hg:g<B):∀ x,v.ownBlock=some x->x≠g:=fun x hx=>by have:=(h.lt x hx).1;omega
structure FewSt (w wr:zW)(U g m:Nat)(l l':List zA)(v:zV):Prop where
 own:wr.ownsRow w.heap.size 9 1 v l'.length (l'.map .string)
 tape:z4d wr U g (m+1+l'.length)
 kept:z49 [g] w wr
 sub:∀ x∈l',x∈l
def ziw (w:zW)(U g m:Nat)(l:List zA)(e:Ending)(w':zW):Prop:=∃(l':List zA) (v:zV),e=.returned v/\z20 w' v l'/\l'.length<=2/\(∀ x∈l',x∈l)/\z4d w' U g (m+3)/\z49 [g] w w'/\∀ x,v.ownBlock=some x->w.heap.size<=x
theorem zix (U g m:Nat)(l:List zA)(A:zP)(c:Nat)(w:zW)(hT:z4d w U g m)(hU:U<=w.heap.size)(hm:m<=100000)(hL:∀ W,z49 [g] w W->z20 W (zL A l.length c) l)(h0:0<l.length)(hl:l.length<=1000):
  Calls prog 15 #[.pointer (some ⟨g,0,none⟩),zL A l.length c] w (ziw w U g m l):=by
 have hg:=hT.lt;have HN:=hd_ (z4e U g m 3 w hT (by omega) (by omega))
 have HL:=hd_ hL;clear hT hL;go_enter func15,ntmps15;go_wp2_with (refine HN.mono ?_;rintro e w1 ⟨k,rfl,hk,hT1,hK1⟩)
 obtain⟨j,rfl⟩:∃ j:Nat,k=j:=⟨k.toNat,by have:=hk.1;omega⟩
 have hj2:j<=2:=by have:=hk.2.1 (by omega);omega
 have HS0:Hid (FewSt w w1 U g m l [] (zL none 0 0)):=hd_ ⟨Zv _ _ _ _,hT1,hK1,fun x h=>by cases h⟩
 clear hk hT1 hK1 HN;go_loopw [5,6] (fun v i wr=>∃(j:Nat) (l':List zA) (A':zP) (c':Nat),v=zL A' l'.length c'/\i=zI j/\l'.length+j<=2/\Hid (FewSt w wr U g m l l' v)) (fun _ i _=>(intOf i).toNat)
 exact⟨j,[],none,0,rfl,rfl,by simpa using hj2,HS0⟩
 obtain⟨j,l',A',c',rfl,rfl,hlj,HI⟩:=hrel;by_cases h1:0<j
 ·have q1:decide ((0:Int)<(j:Int))=true:=by simp;omega
  have q2:decide ((0:Int)<(l.length:Int))=true:=by simp;omega
  have HX:=hd_ (z4e U g (m+1+l'.length) l.length wr HI.tape (by omega) (by omega))
  go_wp2_with (refine HX.mono ?_;rintro e w2 ⟨k,rfl,hk,hT2,hK2⟩)
  obtain⟨kk,rfl⟩:∃ kk:Nat,k=kk:=⟨k.toNat,by have:=hk.1;omega⟩
  have hkk:kk<l.length:=by
   rcases Nat.lt_or_ge 1 l.length with h | h
   ·have:=hk.2.1 (by omega);omega
   ·have:=hk.2.2 (by omega);omega
  obtain⟨ad,rfl,hab,s0⟩:=z20.at_ (HL.out w2 (HI.out.kept.trans hK2)) hkk;have HQM:=hd_ (show l[kk]∈l from Za hkk);generalize l[kk]=q at s0 HQM;have hgl:=hI_lt HI.out.own hg;have hown2:w2.ownsRow w.heap.size 9 1 (zL A' l'.length c') l'.length (l'.map .string):=ziq HI.own hK2 (fun x hx=>by rw[Zm];exact hgl x hx)
  have HOWN:=hd_ (z0u hown2 (zC #[zS q] 9));have HT2:=hd_ hT2;have HK2:=hd_ (HI.kept.trans hK2);have hb2:w.heap.size<=(w2.alloc (zC #[zS q] 9)).heap.size:=by have:=HK2.out.size;simp;omega
  have HH1:=hd_ h1;clear hk hT2 hK2 hown2 hgl h1;go_wp2_with fail;go_simp
  go_wp2_with (at_builtin;refine z0j (base:=w.heap.size) rfl rfl strElem HOWN rfl (z0i w2 [zS q] _ 1 1 rfl (by decide) _ (by simp)) rfl (by simp [Value.oneCell']) (by omega) (by unfold maxLen;omega) hb2 ?_;intro A6 c6 w6 hO6 hG6 hw6)
  have HN6:Hid (FewSt w w6 U g m l (l'++[q]) (zL A6 (l'.length+1) c6)):=hd_ (by
   have hK6:z49 [g] w w6:=(HK2.ku (zR)).grown_own hG6 (fun k e=>(HOWN.lt k e).1);refine⟨?_,?_,hK6,fun x hx=>?_⟩
   ·rw[Zc,Zs];exact hO6
   ·have ht:=(HT2.out.kw ((Zb _ _).alloc (Zd _) (zC #[zS q] 9)));have ht2:=ht.keep hG6.size (fun x hx=>hG6.block x (by simp;have:=HK2.out.size;omega) (fun e=>by have:=(HOWN.out.lt x e.symm).1;omega))
    rw[Zc];exact ht2
   ·rcases Zy.1 hx with hx | hx
    ·exact HI.sub x hx
    ·rw[Zm] at hx;rw[hx];exact HQM)
  have h1:=HH1.out;have q5:IntKind.i64.wrap ((j:Int) - 1)=((j - 1:Nat):Int):=by rw[IntKind.wrap_i64];omega
  clear hO6 hG6 hw6;go_wp2_with fail;go_roundw
  exact⟨j - 1,l'++[q],A6,c6,by rw[Zc];rfl,by first | rfl | go_num,by rw[Zc];simp;omega,HN6⟩
  simp [intOf];omega
 ·have h0j:j=0:=by omega
  subst h0j;have q1:decide ((0:Int)<((0:Nat):Int))=false:=by simp
  have HF:=hd_ (fun(X:zW) (hX:X=wr)=>(⟨l',_,rfl,Row.of_own HI.own,by omega,HI.sub,HI.tape.mono (by omega),HI.kept,fun x hx=>(HI.own.lt x hx).1⟩:ziw w U g m l (.returned (zL A' l'.length c')) wr))
  go_wp2_with fail;go_ret;exact HF _ rfl
structure zoo (D:List Rev)(n:Nat):Prop where
 len:D.length<=n
 six:∀ r∈D,r.kt∈z8e
 num:∀ p (i:Nat) (h:i<(zf9 D p).length),(zf9 D p)[i].num=(i:Int)+1
theorem dp_nil:zoo [] 0:=⟨Zd _,(fun r h=>by cases h),fun p i h=>by simp [zf9] at h⟩
theorem zop {D:List Rev}{n:Nat}(h:zoo D n)(p:zA):(zf8 (zfc D p)).num=((zf9 D p).length:Int):=by
 unfold zfc zf8;rcases ZU (zf9 D p).length with h0 | h0
 ·rw[Zt h0];rfl
 ·rw[List.getLast?_eq_getElem?,Ze (by omega),Option.getD_some,h.num p _ (by omega)]
  omega
theorem zoq {D:List Rev}{n:Nat}(h:zoo D n):∀ r∈D,1<=r.num:=fun r hr=>by
 obtain⟨i,hi,e⟩:=ZF (zfa.2 ⟨hr,rfl⟩:r∈zf9 D r.kt);have:=h.num r.kt i hi;rw[e] at this;omega
theorem zor {p:zA}:∀ {L:List Rev},(L.map (·.kt)).Nodup->zf9 L p=[]\/∃ r∈L,r.kt=p/\zf9 L p=[r]
 | [],_=>.inl rfl
 | r :: L,h=>by
  rw[ZN,List.nodup_cons] at h;have e:zf9 (r :: L) p=(if r.kt=p then [r] else [])++zf9 L p:=by
   unfold zf9;by_cases hp:r.kt=p
   ·rw[if_pos hp,List.filter_cons_of_pos (by simpa using hp)];rfl
   ·rw[if_neg hp,List.filter_cons_of_neg (by simpa using hp)];rfl
  rw[e];by_cases hp:r.kt=p
  ·rw[if_pos hp];have:zf9 L p=[]:=by
    cases hl:zf9 L p with
    | nil=>rfl
    | cons v l =>
     have hv:v∈zf9 L p:=by rw[hl];exact Zj ..
     obtain⟨h1,h2⟩:=zfa.1 hv;exact absurd (ZD.2 ⟨v,h1,h2.trans hp.symm⟩) h.1
   rw[this];exact .inr ⟨r,Zj ..,hp,rfl⟩
  ·rw[if_neg hp];rcases zor (p:=p) h.2 with h1 | ⟨v,h1,h2,h3⟩
   ·exact .inl h1
   ·exact .inr ⟨v,Zh _ h1,h2,h3⟩
theorem dp_app {D:List Rev}{n:Nat}{es:List Edt}(h:zoo D n)(m:Int)(h6:∀ x∈es,x.kt∈z8e)(hn:(es.map (·.kt)).Nodup)(hb:∀ x∈es,x.base=(zf8 (zfc D x.kt)).num):zoo (D++es.map (zgg m)) (n+es.length):=by
 refine⟨by rw[Zc,Zk];have:=h.len;omega,fun r hr=>?_,fun p i hi=>?_⟩
 ·rcases Zy.1 hr with hr | hr
  ·exact h.six r hr
  ·obtain⟨x,hx,rfl⟩:=ZD.1 hr;exact h6 x hx
 ·have hl:zf9 (es.map (zgg m)) p=[]\/∃ r∈es.map (zgg m),r.kt=p/\zf9 (es.map (zgg m)) p=[r]:=zor (by rw[List.map_map];exact hn)
  have e:=zfb D (es.map (zgg m)) p;rcases hl with hl | ⟨r,hr,hp,hl⟩
  ·rw[hl,ZM] at e;have hi2:i<(zf9 D p).length:=by rw[<- e];exact hi
   have:=h.num p i hi2;rw[<- this];congr 1
   simp only[e]
  ·rw[hl] at e;have hi2:i<(zf9 D p).length+1:=by have:=congrArg List.length e;rw[Zc,ZL] at this;omega
   by_cases hlt:i<(zf9 D p).length
   ·rw[<- h.num p i hlt];congr 1
    simp only[e]
    rw[List.getElem_append_left]
   ·have hie:i=(zf9 D p).length:=by omega
    obtain⟨x,hx,rfl⟩:=ZD.1 hr;have hnum:(zgg m x).num=(i:Int)+1:=by
     show x.base+1=_
     have hp':x.kt=p:=hp;rw[hb x hx,hp',zop h,hie]
    rw[<- hnum];congr 1
    simp only[e]
    rw[List.getElem_append_right (by omega)]
    simp [hie]
theorem dp_at {D:List Rev}{n:Nat}(h:zoo D n)(p:zA)(m:Int):zf8 (z38 D p (fun v=>decide (v.chg<=m)))=rAt D p m/\(z38 D p (fun v=>decide (v.chg<=m))).isSome=decide (0<(rAt D p m).num):=by
 rw[zfn,zfm];refine zfo m p (zf9 D p) none ?_ (fun v hv=>⟨?_,(zfa.1 hv).2⟩) (fun b hb=>by cases hb)
 ·rw[List.pairwise_iff_getElem];intro i j hi hj hij;rw[h.num p i hi,h.num p j hj];omega
 ·have:=zoq h v (zfa.1 hv).1;omega
theorem zrj {D:List Rev}{f:zA->Option zA}{m:Int}{p:zA}{n:Nat}(h:zoo D n):
  (decide (0<(rAt D p m).num)=false->z8i D f m p=none)/\(decide (0<(rAt D p m).num)=true->(f p=none->z8i D f m p=none)/\(z32 (rAt D p m).act=false->z8i D f m p=none)/\∀ s,f p=some s->z32 (rAt D p m).act=true->z8i D f m p=some ⟨p,(rAt D p m).num,s⟩):=by
 obtain⟨h1,h2⟩:=dp_at h p m;unfold z8i;cases hg:z38 D p (fun v=>decide (v.chg<=m)) with
 | none =>
  rw[hg] at h2;refine⟨fun _=>rfl,fun h3=>?_⟩;rw[h3] at h2;cases h2
 | some r =>
  rw[hg] at h1 h2;have h1:r=rAt D p m:=h1;subst h1;refine⟨fun h3=>(by rw[h3] at h2;cases h2),fun _=>⟨fun e=>(by simp only;rw[e];split <;> rfl),fun e=>(by simp only;rw[if_neg (by rw[e];decide)]),fun s e1 e2=>(by simp only;rw[if_pos e2,e1];rfl)⟩⟩
def RwPost (w:zW)(l:List Hav)(e:Ending)(w':zW):Prop:=∃ v,e=.returned (.tuple #[v,zI 0])/\w'.ownsRow w.heap.size 84 3 v l.length (l.flatMap Hav.cells)/\zB w w'
