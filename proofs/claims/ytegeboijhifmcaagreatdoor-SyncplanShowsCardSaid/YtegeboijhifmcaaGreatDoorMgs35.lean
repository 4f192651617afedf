/- A part of the proof. -/
import Derived.Test.YtegeboijhifmcaaGreatDoorMgs30
set_option linter.unusedVariables false
set_option linter.unusedSimpArgs false
set_option maxHeartbeats 16000000
set_option maxRecDepth 100000
namespace Go.Proofs.YtegeboijhifmcaaGreatDoor
open Go.Proofs.Tryz
open Go.RowKit
theorem zhx {w:World}{g:Nat}{e:TypeId}{a b c d x:Value}(h:Blk w g e [a,b,c,d,x]):
  w.cell? ⟨g,0,none⟩=some a∧w.cell? ⟨g,1,none⟩=some b∧w.cell? ⟨g,2,none⟩=some c∧w.cell? ⟨g,3,none⟩=some d∧w.cell? ⟨g,4,none⟩=some x:=
 ⟨h.cell 0,h.cell 1,h.cell 2,h.cell 3,h.cell 4⟩
def zhy (n:Int)(x:Edt):Rev:=⟨x.path,x.base+1,n,x.act,x.ty,x.sum,x.size,x.frm,x.fnum⟩
theorem zhz (num:Int)(cl tx:ByteArray)(Ae Ac:Option Addr)(ne nc ce cc:Nat)(x:Edt)(w:World)(hb:0≤x.base∧x.base≤1000000):
  Calls prog 87 #[.agg #[.int .i64 num,.string cl,.string tx,.slice Ae ne ce,.slice Ac nc cc],.agg #[.string x.path,.int .i64 x.act,.int .i64 x.ty.base,.bool x.ty.k,.bool x.ty.l,.bool x.ty.x,.int .u64 x.sum,.int .i64 x.size,.int .i64 x.base,.string x.frm,.int .i64 x.fnum,.int .i64 x.fence]] w fun e w'=>e=.returned (.agg #[.string (zhy num x).path,.int .i64 (zhy num x).num,.int .i64 (zhy num x).chg,.int .i64 (zhy num x).act,.int .i64 (zhy num x).ty.base,.bool (zhy num x).ty.k,.bool (zhy num x).ty.l,.bool (zhy num x).ty.x,.int .u64 (zhy num x).sum,.int .i64 (zhy num x).size,.string (zhy num x).frm,.int .i64 (zhy num x).fnum])∧Below w.heap.size w w':=by
 have hb0:Below w.heap.size w (((w.alloc (.cells #[.int .i64 num,.string cl,.string tx,.slice Ae ne ce,.slice Ac nc cc] 95)).alloc (.cells #[.string x.path,.int .i64 x.act,.int .i64 x.ty.base,.bool x.ty.k,.bool x.ty.l,.bool x.ty.x,.int .u64 x.sum,.int .i64 x.size,.int .i64 x.base,.string x.frm,.int .i64 x.fnum,.int .i64 x.fence] 90)).alloc (.cells #[.string ⟨#[]⟩,.int .i64 0,.int .i64 0,.int .i64 0,.int .i64 0,.bool false,.bool false,.bool false,.int .u64 0,.int .i64 0,.string ⟨#[]⟩,.int .i64 0] 66)):=(((Below.refl _ _).alloc (Nat.le_refl _) _).alloc (by simp) _).alloc (by simp;omega) _
 have hZ:Blk (((w.alloc (.cells #[.int .i64 num,.string cl,.string tx,.slice Ae ne ce,.slice Ac nc cc] 95)).alloc (.cells #[.string x.path,.int .i64 x.act,.int .i64 x.ty.base,.bool x.ty.k,.bool x.ty.l,.bool x.ty.x,.int .u64 x.sum,.int .i64 x.size,.int .i64 x.base,.string x.frm,.int .i64 x.fnum,.int .i64 x.fence] 90)).alloc (.cells #[.string ⟨#[]⟩,.int .i64 0,.int .i64 0,.int .i64 0,.int .i64 0,.bool false,.bool false,.bool false,.int .u64 0,.int .i64 0,.string ⟨#[]⟩,.int .i64 0] 66)) (w.heap.size+1+1) 66 [.string ⟨#[]⟩,.int .i64 0,.int .i64 0,.int .i64 0,.int .i64 0,.bool false,.bool false,.bool false,.int .u64 0,.int .i64 0,.string ⟨#[]⟩,.int .i64 0]:=by
  have h1:=z0l ((w.alloc (.cells #[.int .i64 num,.string cl,.string tx,.slice Ae ne ce,.slice Ac nc cc] 95)).alloc (.cells #[.string x.path,.int .i64 x.act,.int .i64 x.ty.base,.bool x.ty.k,.bool x.ty.l,.bool x.ty.x,.int .u64 x.sum,.int .i64 x.size,.int .i64 x.base,.string x.frm,.int .i64 x.fnum,.int .i64 x.fence] 90)) [.string ⟨#[]⟩,.int .i64 0,.int .i64 0,.int .i64 0,.int .i64 0,.bool false,.bool false,.bool false,.int .u64 0,.int .i64 0,.string ⟨#[]⟩,.int .i64 0] 66;simp only[World.size_alloc] at h1
  exact h1
 have hV:Blk (((w.alloc (.cells #[.int .i64 num,.string cl,.string tx,.slice Ae ne ce,.slice Ac nc cc] 95)).alloc (.cells #[.string x.path,.int .i64 x.act,.int .i64 x.ty.base,.bool x.ty.k,.bool x.ty.l,.bool x.ty.x,.int .u64 x.sum,.int .i64 x.size,.int .i64 x.base,.string x.frm,.int .i64 x.fnum,.int .i64 x.fence] 90)).alloc (.cells #[.string ⟨#[]⟩,.int .i64 0,.int .i64 0,.int .i64 0,.int .i64 0,.bool false,.bool false,.bool false,.int .u64 0,.int .i64 0,.string ⟨#[]⟩,.int .i64 0] 66)) (w.heap.size+1) 90 [.string x.path,.int .i64 x.act,.int .i64 x.ty.base,.bool x.ty.k,.bool x.ty.l,.bool x.ty.x,.int .u64 x.sum,.int .i64 x.size,.int .i64 x.base,.string x.frm,.int .i64 x.fnum,.int .i64 x.fence]:=by
  have h1:=(z0l (w.alloc (.cells #[.int .i64 num,.string cl,.string tx,.slice Ae ne ce,.slice Ac nc cc] 95)) [.string x.path,.int .i64 x.act,.int .i64 x.ty.base,.bool x.ty.k,.bool x.ty.l,.bool x.ty.x,.int .u64 x.sum,.int .i64 x.size,.int .i64 x.base,.string x.frm,.int .i64 x.fnum,.int .i64 x.fence] 90).alloc (.cells #[.string ⟨#[]⟩,.int .i64 0,.int .i64 0,.int .i64 0,.int .i64 0,.bool false,.bool false,.bool false,.int .u64 0,.int .i64 0,.string ⟨#[]⟩,.int .i64 0] 66);simp only[World.size_alloc] at h1
  exact h1
 have hB:Blk (((w.alloc (.cells #[.int .i64 num,.string cl,.string tx,.slice Ae ne ce,.slice Ac nc cc] 95)).alloc (.cells #[.string x.path,.int .i64 x.act,.int .i64 x.ty.base,.bool x.ty.k,.bool x.ty.l,.bool x.ty.x,.int .u64 x.sum,.int .i64 x.size,.int .i64 x.base,.string x.frm,.int .i64 x.fnum,.int .i64 x.fence] 90)).alloc (.cells #[.string ⟨#[]⟩,.int .i64 0,.int .i64 0,.int .i64 0,.int .i64 0,.bool false,.bool false,.bool false,.int .u64 0,.int .i64 0,.string ⟨#[]⟩,.int .i64 0] 66)) w.heap.size 95 [.int .i64 num,.string cl,.string tx,.slice Ae ne ce,.slice Ac nc cc]:=((z0l w _ _).alloc _).alloc _;have b0:0≤x.base:=hb.1;have b1:x.base≤1000000:=hb.2;clear hb;go_enter func87,ntmps87;go_upto_region 1 with fail;generalize ((w.alloc (.cells #[.int .i64 num,.string cl,.string tx,.slice Ae ne ce,.slice Ac nc cc] 95)).alloc (.cells #[.string x.path,.int .i64 x.act,.int .i64 x.ty.base,.bool x.ty.k,.bool x.ty.l,.bool x.ty.x,.int .u64 x.sum,.int .i64 x.size,.int .i64 x.base,.string x.frm,.int .i64 x.fnum,.int .i64 x.fence] 90)).alloc (.cells #[.string ⟨#[]⟩,.int .i64 0,.int .i64 0,.int .i64 0,.int .i64 0,.bool false,.bool false,.bool false,.int .u64 0,.int .i64 0,.string ⟨#[]⟩,.int .i64 0] 66)=W1 at hb0 hZ hV hB ⊢;obtain⟨d0,d1,d2,d3,d4⟩:=zhx hB;obtain⟨c0,c1,c2,c3,c4,c5,c6,c7,c8,c9,c10,c11⟩:=z7z hV;obtain⟨z0,z1,z2,z3,z4,z5,z6,z7,z8,z9,z10,z11⟩:=z7z hZ;obtain⟨y0,y1,y2,y3,y4,y5,y6,y7,y8,y9,y10,y11⟩:=zdz hZ;have HZ:=hd_ hZ;have Hb0:=hd_ hb0;clear hb0 hZ hV hB;go_wp2_with fail;have hZ3:=ze0 HZ.out (zhy num x);have hB3:=ze1 Hb0.out (show w.heap.size≤w.heap.size+1+1 by omega) (zhy num x)
 clear d0 d1 d2 d3 d4 c0 c1 c2 c3 c4 c5 c6 c7 c8 c9 c10 c11 z0 z1 z2 z3 z4 z5 z6 z7 z8 z9 z10 z11 y0 y1 y2 y3 y4 y5 y6 y7 y8 y9 y10 y11;have e:((((((((((((W1.setCell ⟨w.heap.size+1+1,0,none⟩ (.string (zhy num x).path)).setCell ⟨w.heap.size+1+1,1,none⟩ (.int .i64 (zhy num x).num)).setCell ⟨w.heap.size+1+1,2,none⟩ (.int .i64 (zhy num x).chg)).setCell ⟨w.heap.size+1+1,3,none⟩ (.int .i64 (zhy num x).act)).setCell ⟨w.heap.size+1+1,4,none⟩ (.int .i64 (zhy num x).ty.base)).setCell ⟨w.heap.size+1+1,5,none⟩ (.bool (zhy num x).ty.k)).setCell ⟨w.heap.size+1+1,6,none⟩ (.bool (zhy num x).ty.l)).setCell ⟨w.heap.size+1+1,7,none⟩ (.bool (zhy num x).ty.x)).setCell ⟨w.heap.size+1+1,8,none⟩ (.int .u64 (zhy num x).sum)).setCell ⟨w.heap.size+1+1,9,none⟩ (.int .i64 (zhy num x).size)).setCell ⟨w.heap.size+1+1,10,none⟩ (.string (zhy num x).frm)).setCell ⟨w.heap.size+1+1,11,none⟩ (.int .i64 (zhy num x).fnum))=((((((((((((W1.setCell ⟨w.heap.size+1+1,0,none⟩ (.string ((⟨x.path,x.base+1,num,x.act,x.ty,x.sum,x.size,x.frm,x.fnum⟩:Rev)).path)).setCell ⟨w.heap.size+1+1,1,none⟩ (.int .i64 ((⟨x.path,x.base+1,num,x.act,x.ty,x.sum,x.size,x.frm,x.fnum⟩:Rev)).num)).setCell ⟨w.heap.size+1+1,2,none⟩ (.int .i64 ((⟨x.path,x.base+1,num,x.act,x.ty,x.sum,x.size,x.frm,x.fnum⟩:Rev)).chg)).setCell ⟨w.heap.size+1+1,3,none⟩ (.int .i64 ((⟨x.path,x.base+1,num,x.act,x.ty,x.sum,x.size,x.frm,x.fnum⟩:Rev)).act)).setCell ⟨w.heap.size+1+1,4,none⟩ (.int .i64 ((⟨x.path,x.base+1,num,x.act,x.ty,x.sum,x.size,x.frm,x.fnum⟩:Rev)).ty.base)).setCell ⟨w.heap.size+1+1,5,none⟩ (.bool ((⟨x.path,x.base+1,num,x.act,x.ty,x.sum,x.size,x.frm,x.fnum⟩:Rev)).ty.k)).setCell ⟨w.heap.size+1+1,6,none⟩ (.bool ((⟨x.path,x.base+1,num,x.act,x.ty,x.sum,x.size,x.frm,x.fnum⟩:Rev)).ty.l)).setCell ⟨w.heap.size+1+1,7,none⟩ (.bool ((⟨x.path,x.base+1,num,x.act,x.ty,x.sum,x.size,x.frm,x.fnum⟩:Rev)).ty.x)).setCell ⟨w.heap.size+1+1,8,none⟩ (.int .u64 ((⟨x.path,x.base+1,num,x.act,x.ty,x.sum,x.size,x.frm,x.fnum⟩:Rev)).sum)).setCell ⟨w.heap.size+1+1,9,none⟩ (.int .i64 ((⟨x.path,x.base+1,num,x.act,x.ty,x.sum,x.size,x.frm,x.fnum⟩:Rev)).size)).setCell ⟨w.heap.size+1+1,10,none⟩ (.string ((⟨x.path,x.base+1,num,x.act,x.ty,x.sum,x.size,x.frm,x.fnum⟩:Rev)).frm)).setCell ⟨w.heap.size+1+1,11,none⟩ (.int .i64 ((⟨x.path,x.base+1,num,x.act,x.ty,x.sum,x.size,x.frm,x.fnum⟩:Rev)).fnum)):=rfl
 dsimp only at e
 rw[← e];generalize ((((((((((((W1.setCell ⟨w.heap.size+1+1,0,none⟩ (.string (zhy num x).path)).setCell ⟨w.heap.size+1+1,1,none⟩ (.int .i64 (zhy num x).num)).setCell ⟨w.heap.size+1+1,2,none⟩ (.int .i64 (zhy num x).chg)).setCell ⟨w.heap.size+1+1,3,none⟩ (.int .i64 (zhy num x).act)).setCell ⟨w.heap.size+1+1,4,none⟩ (.int .i64 (zhy num x).ty.base)).setCell ⟨w.heap.size+1+1,5,none⟩ (.bool (zhy num x).ty.k)).setCell ⟨w.heap.size+1+1,6,none⟩ (.bool (zhy num x).ty.l)).setCell ⟨w.heap.size+1+1,7,none⟩ (.bool (zhy num x).ty.x)).setCell ⟨w.heap.size+1+1,8,none⟩ (.int .u64 (zhy num x).sum)).setCell ⟨w.heap.size+1+1,9,none⟩ (.int .i64 (zhy num x).size)).setCell ⟨w.heap.size+1+1,10,none⟩ (.string (zhy num x).frm)).setCell ⟨w.heap.size+1+1,11,none⟩ (.int .i64 (zhy num x).fnum))=W3 at hZ3 hB3 ⊢;obtain⟨e0,e1,e2,e3,e4,e5,e6,e7,e8,e9,e10,e11⟩:=z7z hZ3;refine bodyPost_ret (v:=.agg #[.string (zhy num x).path,.int .i64 (zhy num x).num,.int .i64 (zhy num x).chg,.int .i64 (zhy num x).act,.int .i64 (zhy num x).ty.base,.bool (zhy num x).ty.k,.bool (zhy num x).ty.l,.bool (zhy num x).ty.x,.int .u64 (zhy num x).sum,.int .i64 (zhy num x).size,.string (zhy num x).frm,.int .i64 (zhy num x).fnum]) (by simp [results,results87,go_sem,e0,e1,e2,e3,e4,e5,e6,e7,e8,e9,e10,e11]) rfl ⟨rfl,hB3⟩
def zi0 (revs:List Rev)(p:ByteArray):Bool:=match zgs revs p with
 | none=>false
 | some r=>z2v r.act
theorem zi1 {revs:List Rev}{p:ByteArray}:(zgs revs p=none→zi0 revs p=false)∧∀ r,zgs revs p=some r→zi0 revs p=z2v r.act:=by
 unfold zi0;exact⟨fun h=>by rw[h],fun r h=>by rw[h]⟩
theorem zi2 (revs:List Rev)(p:ByteArray)(dv dr:Value)(w:World)(hR:z45 w dv revs)(hl:revs.length≤1000000):
  Calls prog 89 #[.agg #[dv,dr],.string p] w fun e w'=>e=.returned (.tuple #[.bool (zi0 revs p),.int .i64 (zec (zgs revs p)).num])∧Below w.heap.size w w':=by
 obtain⟨Ar,cr,rfl,-⟩:=id hR;have HR:=hd_ hR;clear hR;have HAT:=hd_ (@zi1 revs p);go_enter func89,ntmps89;have hb0:Below w.heap.size w (w.alloc (.cells #[.slice Ar revs.length cr,dr] 26)):=(Below.refl _ _).alloc (Nat.le_refl _) _;have hB:=z0l w [.slice Ar revs.length cr,dr] 26;go_upto_region 1 with fail;generalize w.alloc (.cells #[.slice Ar revs.length cr,dr] 26)=W1 at hb0 hB ⊢;obtain⟨d0,d1,-,-⟩:=box2 hB;have HLS:=hd_ (zh1 revs p (.slice Ar revs.length cr) dr W1 (HR.out.below hb0) hl);have Hb0:=hd_ hb0;clear hb0 hB;go_wp2_with fail;refine HLS.out.mono ?_;rintro e w2 ⟨rfl,hb2⟩;clear d0 d1 HLS;have HB2:=hd_ hb2;clear hb2;generalize hro:zgs revs p=o at HAT ⊢;have HRO:=hd_ hro;clear hro;cases o with
 | none =>
  have HN:=hd_ (HAT.out.1 rfl);have hY:=z0l w2 [.string z2m.path,.int .i64 z2m.num,.int .i64 z2m.chg,.int .i64 z2m.act,.int .i64 z2m.ty.base,.bool z2m.ty.k,.bool z2m.ty.l,.bool z2m.ty.x,.int .u64 z2m.sum,.int .i64 z2m.size,.string z2m.frm,.int .i64 z2m.fnum] 66;have hA5:Below w.heap.size w (w2.alloc (.cells #[.string z2m.path,.int .i64 z2m.num,.int .i64 z2m.chg,.int .i64 z2m.act,.int .i64 z2m.ty.base,.bool z2m.ty.k,.bool z2m.ty.l,.bool z2m.ty.x,.int .u64 z2m.sum,.int .i64 z2m.size,.string z2m.frm,.int .i64 z2m.fnum] 66)):=z0r Hb0.out (zcf HB2.out _);have hsu:zec none=z2m:=rfl;go_upto_region 2 with fail;clear hsu HAT;generalize w2.alloc (.cells #[.string z2m.path,.int .i64 z2m.num,.int .i64 z2m.chg,.int .i64 z2m.act,.int .i64 z2m.ty.base,.bool z2m.ty.k,.bool z2m.ty.l,.bool z2m.ty.x,.int .u64 z2m.sum,.int .i64 z2m.size,.string z2m.frm,.int .i64 z2m.fnum] 66)=V3 at hY hA5 ⊢;obtain⟨b0,b1,b2,b3,b4,b5,b6,b7,b8,b9,b10,b11⟩:=z7z hY;have HA5:=hd_ hA5;clear hY hA5;go_quiet (fail)
  go_wp2_with fail;go_ret2;exact⟨by rw[HN.out,HRO.out];rfl,z0p HA5.out _⟩
 | some r =>
  have HN:=hd_ (HAT.out.2 r rfl);have hY:=z0l w2 [.string r.path,.int .i64 r.num,.int .i64 r.chg,.int .i64 r.act,.int .i64 r.ty.base,.bool r.ty.k,.bool r.ty.l,.bool r.ty.x,.int .u64 r.sum,.int .i64 r.size,.string r.frm,.int .i64 r.fnum] 66;have hA5:Below w.heap.size w (w2.alloc (.cells #[.string r.path,.int .i64 r.num,.int .i64 r.chg,.int .i64 r.act,.int .i64 r.ty.base,.bool r.ty.k,.bool r.ty.l,.bool r.ty.x,.int .u64 r.sum,.int .i64 r.size,.string r.frm,.int .i64 r.fnum] 66)):=z0r Hb0.out (zcf HB2.out _);have hsu:zec (some r)=r:=rfl;go_upto_region 2 with fail;clear hsu HAT;generalize w2.alloc (.cells #[.string r.path,.int .i64 r.num,.int .i64 r.chg,.int .i64 r.act,.int .i64 r.ty.base,.bool r.ty.k,.bool r.ty.l,.bool r.ty.x,.int .u64 r.sum,.int .i64 r.size,.string r.frm,.int .i64 r.fnum] 66)=V3 at hY hA5 ⊢;generalize w2.heap.size=g6 at hY ⊢;have HY:=hd_ hY;have HA5:=hd_ hA5;obtain⟨b0,b1,b2,b3,b4,b5,b6,b7,b8,b9,b10,b11⟩:=z7z hY;have HGO:=hd_ (fun X=>zhw r X);clear hY hA5;refine wp_region_noPanic ?_;first
   | go_region_law (go_simp;go_at_call 96;refine (HGO.out _).mono ?_;rintro e w5 ⟨rfl,hX5⟩;have hS5:Below V3.heap.size V3 w5:=(Below.refl _ _).drew.trans hX5;obtain⟨k0,k1,k2,k3,k4,k5,k6,k7,k8,k9,k10,k11⟩:=z7z (HY.out.below hS5 HY.out.lt))
   | fail
  all_goals
   refine NoPanic.normal ?_;go_wp2_with fail;go_ret2;exact⟨by rw[HN.out,HRO.out];cases z2v r.act <;> rfl,z0r HA5.out hS5⟩
theorem weT18 (T:Code)(hT:Tryz.f126.body.bind (zhv 18)=some T)(R:Ending→World→Prop)(revs:List Rev)(c:Chg)(x:Edt)(Ar Ae Ac:Option Addr)(dr:Value)(cr ce cc g3 g4 g7:Nat)(w4:World)
  (hR:z45 w4 (.slice Ar revs.length cr) revs) (hl:revs.length≤100000) (hbs:0≤x.base∧x.base≤1000000)
  (hD:Blk w4 g3 26 [.slice Ar revs.length cr,dr]) (hC:Blk w4 g4 95 [.int .i64 c.num,.string c.client,.string c.text,.slice Ae c.edits.length ce,.slice Ac c.recs.length cc]) (hX:Blk w4 g7 90 [.string x.path,.int .i64 x.act,.int .i64 x.ty.base,.bool x.ty.k,.bool x.ty.l,.bool x.ty.x,.int .u64 x.sum,.int .i64 x.size,.int .i64 x.base,.string x.frm,.int .i64 x.fnum,.int .i64 x.fence])
  (hRR:∀(n:Int) (w':World),Below w4.heap.size w4 w'→R (.returned (.int .i64 n)) w')
  (u0 u1 u2 u5 u6 u8 u9 gn gt gu gx gy gz gA gC gD gE gF gG gH gI gJ gK gL gM gN gO gP gQ gR gT gV gW gX gY gZ i6 i7 i8 ia ib ic ie ig ii ij ik il im io ip iq ir iu iv iw ix iy iz iA iB iC iD iE iF iG iH iI iJ iK iL iM iN iO iP iQ iR iS iT iU iV iW iX iY iZ j0 j1 j2 j5 j6 j7 j8 j9 jb jd je jf bw bz bA bB bD bE bF bG bH bI bJ bK bL bM bN bO bP bQ bT bU bV bW bX bY bZ ca cj ck cn cx cy cz cA cB cD cE cG cH cI cJ cM cN cO cP cQ cT cU cW:Value):
  T.wp prog (bodyPost prog Tryz.f126 R) ⟨#[u0,u1,u2,.pointer (some ⟨g3,0,none⟩),.pointer (some ⟨g4,0,none⟩),u5,u6,.pointer (some ⟨g7,0,none⟩),u8,u9,gn,gt,gu,gx,gy,gz,gA,gC,gD,gE,gF,gG,gH,gI,gJ,gK,gL,gM,gN,gO,gP,gQ,gR,gT,gV,gW,gX,gY,gZ,i6,i7,i8,ia,ib,ic,ie,ig,ii,ij,ik,il,im,io,ip,iq,ir,iu,iv,iw,ix,iy,iz,iA,iB,iC,iD,iE,iF,iG,iH,iI,iJ,iK,iL,iM,iN,iO,iP,iQ,iR,iS,iT,iU,iV,iW,iX,iY,iZ,j0,j1,j2,j5,j6,j7,j8,j9,jb,jd,je,jf,bw,bz,bA,bB,bD,bE,bF,bG,bH,bI,bJ,bK,bL,bM,bN,bO,bP,bQ,bT,bU,bV,bW,bX,bY,bZ,ca,cj,ck,cn,cx,cy,cz,cA,cB,cD,cE,cG,cH,cI,cJ,cM,cN,cO,cP,cQ,cT,cU,cW],[]⟩ w4:=by
 simp only[Tryz.f126,Option.bind_some,zhv,zhu] at hT
 simp at hT
 subst hT;have HRR:=hd_ hRR;have HR:=hd_ hR;have HBS:=hd_ hbs;have HX4:=hd_ hX;have HD4:=hd_ hD;have HC4:=hd_ hC;have HLAST:=hd_ (fun p X (hX:Below w4.heap.size w4 X)=>zh1 revs p (.slice Ar revs.length cr) dr X (HR.out.below hX) (by omega))
 clear hRR hR hbs hD hC hX;obtain⟨c0,c1,c2,c3,c4,c5,c6,c7,c8,c9,c10,c11⟩:=z7z HX4.out;have HCK:=hd_ (fun X=>zi3 x.ty.base x.ty.k x.ty.l x.ty.x X);cases htk:z2j x.ty.base x.ty.k x.ty.x with
 | false =>
  rw[htk] at HCK;clear htk;go_wp2_with fail;refine (HCK.out _).mono ?_;rintro e w5 ⟨rfl,hb5⟩;have HB5:=hd_ hb5;clear hb5;go_wp2_with fail;exact HRR.out _ _ (HB5.out)
 | true =>
  rw[htk] at HCK;clear htk;go_wp2_with fail;refine (HCK.out _).mono ?_;rintro e w5 ⟨rfl,hb5⟩;have HW5:=hd_ hb5;have HX5:=hd_ (HX4.out.below hb5 HX4.out.lt);have HD5:=hd_ (HD4.out.below hb5 HD4.out.lt);have HC5:=hd_ (HC4.out.below hb5 HC4.out.lt);clear hb5 c0 c1 c2 c3 c4 c5 c6 c7 c8 c9 c10 c11;obtain⟨c0,c1,c2,c3,c4,c5,c6,c7,c8,c9,c10,c11⟩:=z7z HX5.out;by_cases hz:x.size<0
  ·have q:decide (x.size<0)=true:=by simp;omega
   clear hz;go_wp2_with fail;exact HRR.out _ _ (HW5.out)
  ·have q:decide (x.size<0)=false:=by simp;omega
   clear hz;obtain⟨d0,d1,-,-⟩:=box2 HD5.out;have HL2:=hd_ (HLAST.out x.path w5 HW5.out);go_wp2_with fail;refine HL2.out.mono ?_;rintro e w6 ⟨rfl,hb6⟩;generalize zec (zgs revs x.path)=r;generalize (zgs revs x.path).isSome=okb;have hY:=z0l w6 [.string r.path,.int .i64 r.num,.int .i64 r.chg,.int .i64 r.act,.int .i64 r.ty.base,.bool r.ty.k,.bool r.ty.l,.bool r.ty.x,.int .u64 r.sum,.int .i64 r.size,.string r.frm,.int .i64 r.fnum] 66;have hA6:Below w5.heap.size w5 (w6.alloc (.cells #[.string r.path,.int .i64 r.num,.int .i64 r.chg,.int .i64 r.act,.int .i64 r.ty.base,.bool r.ty.k,.bool r.ty.l,.bool r.ty.x,.int .u64 r.sum,.int .i64 r.size,.string r.frm,.int .i64 r.fnum] 66)):=zcf hb6 _;clear hb6 c0 c1 c2 c3 c4 c5 c6 c7 c8 c9 c10 c11 d0 d1;go_upto_region 21 with fail;generalize w6.alloc (.cells #[.string r.path,.int .i64 r.num,.int .i64 r.chg,.int .i64 r.act,.int .i64 r.ty.base,.bool r.ty.k,.bool r.ty.l,.bool r.ty.x,.int .u64 r.sum,.int .i64 r.size,.string r.frm,.int .i64 r.fnum] 66)=w7 at hY hA6 ⊢;generalize w6.heap.size=g14 at hY ⊢;have HX7:=hd_ (HX5.out.below hA6 HX5.out.lt);have HC7:=hd_ (HC5.out.below hA6 HC5.out.lt);have HY:=hd_ hY;have HW7:=hd_ (z0r HW5.out hA6);clear hY hA6;obtain⟨c0,c1,c2,c3,c4,c5,c6,c7,c8,c9,c10,c11⟩:=z7z HX7.out;obtain⟨k0,k1,k2,k3,k4⟩:=zhx HC7.out;have HMD:=hd_ (zhz c.num c.client c.text Ae Ac c.edits.length c.recs.length ce cc x w7 HBS.out);go_wp2_with fail;refine HMD.out.mono ?_;rintro e w8 ⟨rfl,hb8⟩;have HB8:=hd_ hb8;clear hb8 c0 c1 c2 c3 c4 c5 c6 c7 c8 c9 c10 c11 k0 k1 k2 k3 k4;have HGO:=hd_ (zhw (zhy c.num x) w8);go_wp2_with fail;refine HGO.out.mono ?_;rintro e w9 ⟨rfl,hb9⟩;have HB9:=hd_ (z0r HB8.out hb9);clear hb9;obtain⟨c0,c1,c2,c3,c4,c5,c6,c7,c8,c9,c10,c11⟩:=z7z (HX7.out.below HB9.out HX7.out.lt);obtain⟨b0,b1,b2,b3,b4,b5,b6,b7,b8,b9,b10,b11⟩:=z7z (HY.out.below HB9.out HY.out.lt);have hact:(zhy c.num x).act=x.act:=rfl;rw[hact];clear hact;have hty:=zhr x.ty r.ty;have hcn:=zhs x.sum x.size 0 0;generalize (decide (x.sum=0) && decide (x.size=0))=bc at hcn
   generalize decide (x.ty=r.ty)=bt at hty;cases hlv:z2v x.act with
   | true =>
    clear hlv;go_wp2_with fail;exact HRR.out _ _ (z0r HW7.out HB9.out)
   | false =>
    clear hlv;cases bt with
    | false =>
     go_wp2_with fail;exact HRR.out _ _ (z0r HW7.out HB9.out)
    | true =>
     cases bc with
     | false =>
      go_wp2_with fail;exact HRR.out _ _ (z0r HW7.out HB9.out)
     | true =>
      go_wp2_with fail;exact HRR.out _ _ (z0r HW7.out HB9.out)
theorem add_c (a:Int):((a == 1)=true∧(a == 4)=false)∨((a == 1)=false∧(a == 4)=true)∨((a == 1)=false∧(a == 4)=false):=by
 by_cases h1:a=1
 ·subst h1;exact .inl ⟨rfl,rfl⟩
 ·by_cases h4:a=4
  ·subst h4;exact .inr (.inl ⟨rfl,rfl⟩)
  ·exact .inr (.inr ⟨by simpa using h1,by simpa using h4⟩)
theorem weT8 (T:Code)(hT:Tryz.f126.body.bind (zhv 8)=some T)(R:Ending→World→Prop)(revs:List Rev)(c:Chg)(x:Edt)(Ar Ae Ac:Option Addr)(dr:Value)(cr ce cc g3 g4 g7:Nat)(w3:World)
  (hR:z45 w3 (.slice Ar revs.length cr) revs) (hl:revs.length≤100000)
  (hD:Blk w3 g3 26 [.slice Ar revs.length cr,dr]) (hC:Blk w3 g4 95 [.int .i64 c.num,.string c.client,.string c.text,.slice Ae c.edits.length ce,.slice Ac c.recs.length cc]) (hX:Blk w3 g7 90 [.string x.path,.int .i64 x.act,.int .i64 x.ty.base,.bool x.ty.k,.bool x.ty.l,.bool x.ty.x,.int .u64 x.sum,.int .i64 x.size,.int .i64 x.base,.string x.frm,.int .i64 x.fnum,.int .i64 x.fence])
  (hRR:∀(n:Int) (w':World),Below w3.heap.size w3 w'→R (.returned (.int .i64 n)) w')
  (u0 u1 u2 u5 u6 u8 u9 gu gx gy gz gA gC gD gE gF gG gH gI gJ gK gL gM gN gO gP gQ gR gT gV gW gX gY gZ i6 i7 i8 ia ib ic ie ig ii ij ik il im io ip iq ir iu iv iw ix iy iz iA iB iC iD iE iF iG iH iI iJ iK iL iM iN iO iP iQ iR iS iT iU iV iW iX iY iZ j0 j1 j2 j5 j6 j7 j8 j9 jb jd je jf bw bz bA bB bD bE bF bG bH bI bJ bK bL bM bN bO bP bQ bT bU bV bW bX bY bZ ca cj ck cn cx cy cz cA cB cD cE cG cH cI cJ cM cN cO cP cQ cT cU cW:Value) (lv:Bool) (ln:Int) (hbs:0≤x.base∧x.base≤1000000):
  T.wp prog (bodyPost prog Tryz.f126 R) ⟨#[u0,u1,u2,.pointer (some ⟨g3,0,none⟩),.pointer (some ⟨g4,0,none⟩),u5,u6,.pointer (some ⟨g7,0,none⟩),u8,u9,.bool lv,.int .i64 ln,gu,gx,gy,gz,gA,gC,gD,gE,gF,gG,gH,gI,gJ,gK,gL,gM,gN,gO,gP,gQ,gR,gT,gV,gW,gX,gY,gZ,i6,i7,i8,ia,ib,ic,ie,ig,ii,ij,ik,il,im,io,ip,iq,ir,iu,iv,iw,ix,iy,iz,iA,iB,iC,iD,iE,iF,iG,iH,iI,iJ,iK,iL,iM,iN,iO,iP,iQ,iR,iS,iT,iU,iV,iW,iX,iY,iZ,j0,j1,j2,j5,j6,j7,j8,j9,jb,jd,je,jf,bw,bz,bA,bB,bD,bE,bF,bG,bH,bI,bJ,bK,bL,bM,bN,bO,bP,bQ,bT,bU,bV,bW,bX,bY,bZ,ca,cj,ck,cn,cx,cy,cz,cA,cB,cD,cE,cG,cH,cI,cJ,cM,cN,cO,cP,cQ,cT,cU,cW],[]⟩ w3:=by
 simp only[Tryz.f126,Option.bind_some,zhv,zhu] at hT
 simp at hT
 subst hT;have HRR:=hd_ hRR;have HR:=hd_ hR;have HBS:=hd_ hbs;have HX3:=hd_ hX;have HD3:=hd_ hD;have HC3:=hd_ hC;have HLIVE:=hd_ (fun p X (hX:Below w3.heap.size w3 X)=>zi2 revs p (.slice Ar revs.length cr) dr X (HR.out.below hX) (by omega))
 have HT18:=hd_ (fun T hT R W hR hbs hD hC hX hRR=>weT18 T hT R revs c x Ar Ae Ac dr cr ce cc g3 g4 g7 W hR hl hbs hD hC hX hRR);clear hRR hR hD hC hX;obtain⟨c0,c1,c2,c3,c4,c5,c6,c7,c8,c9,c10,c11⟩:=z7z HX3.out;dsimp only;go_upto_region 8 with fail;go_cut [76] (fun v wx=>∃ bb,v=.bool bb∧Hid (wx=w3))
 case first =>
  by_cases hlt1:x.act<1
  case pos =>
   have q:decide (x.act<1)=true:=by simp;omega
   clear hlt1;go_wp2_with fail;go_meet
   exact⟨true,rfl,rfl⟩
  have dlt:decide (x.act<1)=false:=by simp;omega
  by_cases hgt5:5<x.act
  case pos =>
   have q:decide (5<x.act)=true:=by simp;omega
   clear hlt1 hgt5;go_wp2_with fail;go_meet
   exact⟨true,rfl,rfl⟩
  have dgt:decide (5<x.act)=false:=by simp;omega
  clear hlt1 hgt5;rcases add_c x.act with⟨q1,q4⟩ | ⟨q1,q4⟩ | ⟨q1,q4⟩
  all_goals
   cases lv
   all_goals
    go_wp2_with fail;go_meet
    first
     | exact⟨true,rfl,rfl⟩
     | exact⟨false,rfl,rfl⟩
 case rest =>
  obtain⟨bb,rfl,HBB⟩:=hcut;obtain rfl:wc=w3:=HBB.out
  cases bb with
  | true =>
   clear HBB;go_wp2_with fail;exact HRR.out _ _ (Below.refl _ _)
  | false =>
   clear HBB;by_cases hbb:x.base=ln
   case neg =>
    have qb:(x.base != ln)=true:=by simpa using hbb
    clear hbb;go_wp2_with fail;exact HRR.out _ _ (Below.refl _ _)
   have qb:(x.base != ln)=false:=by simpa using hbb
   clear hbb;go_upto_if 83 with fail
   clear qb;go_cut [] (fun wx=>Hid (Below wc.heap.size wc wx))
   case first =>
    by_cases h4:x.act=4
    ·have q4:(x.act == 4)=true:=by simpa using h4
     clear h4;obtain⟨d0,d1,-,-⟩:=box2 HD3.out;have HLV2:=hd_ (HLIVE.out x.frm wc (Below.refl _ _));go_wp2_with fail;refine HLV2.out.mono ?_;rintro e w4 ⟨rfl,hb4⟩;have HW4:=hd_ hb4;have HX4:=hd_ (HX3.out.below hb4 HX3.out.lt);clear hb4 d0 d1 c0 c1 c2 c3 c4 c5 c6 c7 c8 c9 c10 c11;obtain⟨c0,c1,c2,c3,c4,c5,c6,c7,c8,c9,c10,c11⟩:=z7z HX4.out;generalize zi0 revs x.frm=lv2;generalize (zec (zgs revs x.frm)).num=fn2;cases lv2 with
     | false =>
      go_wp2_with fail;exact HRR.out _ _ HW4.out
     | true =>
      by_cases hfn:x.fnum=fn2
      case neg =>
       have qf:(fn2 != x.fnum)=true:=by simp;exact fun h=>hfn h.symm
       clear hfn;go_wp2_with fail;exact HRR.out _ _ HW4.out
      have qf:(fn2 != x.fnum)=false:=by simp [hfn]
      have sq:=ze7 x.frm x.path;by_cases hfp:x.frm=x.path
      case pos =>
       rw[decide_eq_true hfp] at sq;clear hfp hfn;go_wp2_with fail;exact HRR.out _ _ HW4.out
      rw[decide_eq_false hfp] at sq;clear hfp hfn;go_wp2_with fail;go_meet
      exact HW4
    ·have q4:(x.act == 4)=false:=by simpa using h4
     clear h4;by_cases hfr:x.frm=z2l
     case neg =>
      have s1:=ze6 hfr;have s2:=ze5 hfr;clear hfr;go_wp2_with fail;exact HRR.out _ _ (Below.refl _ _)
     have s1:=ze4 hfr;by_cases hfn:x.fnum=0
     case neg =>
      have qf:(x.fnum != 0)=true:=by simpa using hfn
      clear hfr hfn;go_wp2_with fail;exact HRR.out _ _ (Below.refl _ _)
     have qf:(x.fnum != 0)=false:=by simpa using hfn
     clear hfr hfn;go_wp2_with fail;go_meet
     exact hd_ (Below.refl _ _)
   case rest =>
    rename_i wc2
    have HW4:=hd_ hcut.out;clear hcut;have hk:=‹∀(a:Act) (w:World),Code.wp _ _ _ a w→_›;refine hk _ _ (HT18.out _ (by kernel_rfl) _ _ (HR.out.below HW4.out) HBS.out (HD3.out.below HW4.out HD3.out.lt) (HC3.out.below HW4.out HC3.out.lt) (HX3.out.below HW4.out HX3.out.lt) (fun n w' hb=>HRR.out n w' (z0r HW4.out hb)) _ _ _ _ _ _ _ _ _ _ _ _ _ _ _ _ _ _ _ _ _ _ _ _ _ _ _ _ _ _ _ _ _ _ _ _ _ _ _ _ _ _ _ _ _ _ _ _ _ _ _ _ _ _ _ _ _ _ _ _ _ _ _ _ _ _ _ _ _ _ _ _ _ _ _ _ _ _ _ _ _ _ _ _ _ _ _ _ _ _ _ _ _ _ _ _ _ _ _ _ _ _ _ _ _ _ _ _ _ _ _ _ _ _ _ _ _ _ _ _ _ _ _ _ _ _ _ _ _ _ _ _ _ _ _ _ _ _ _ _ _ _ _ _ _)
def zi4 (w:World)(e:Ending)(w':World):Prop:=(∃ n:Int,e=.returned (.int .i64 n))∧Below w.heap.size w w'
theorem zi5 (d:Dep)(c:Chg)(dv dr:Value)(Ae Ac:Option Addr)(ce cc i:Nat)(w:World)(he:Env w)(hR:z45 w dv d.revs)(hl:d.revs.length≤100000)(hE:z47 w (.slice Ae c.edits.length ce) c.edits)(hi:i<c.edits.length)(hel:c.edits.length≤100000)
  (hsz:∀ e∈c.edits,e.path.size≤2000000∧0≤e.base∧e.base≤1000000):
  Calls prog 126 #[.agg #[dv,dr],.agg #[.int .i64 c.num,.string c.client,.string c.text,.slice Ae c.edits.length ce,.slice Ac c.recs.length cc],.int .i64 i] w (zi4 w):=by
 obtain⟨Ar,cr,rfl,-⟩:=id hR;have HR:=hd_ hR;have HE:=hd_ hE;have HEN:=hd_ he;have HLIVE:=hd_ (fun p X (hX:Below w.heap.size w X)=>zi2 d.revs p (.slice Ar d.revs.length cr) dr X (HR.out.below hX) (by omega))
 have HSZ:=hd_ hsz;clear hR hE he hsz;have hb0:Below w.heap.size w ((w.alloc (.cells #[.slice Ar d.revs.length cr,dr] 26)).alloc (.cells #[.int .i64 c.num,.string c.client,.string c.text,.slice Ae c.edits.length ce,.slice Ac c.recs.length cc] 95)):=((Below.refl _ _).alloc (Nat.le_refl _) _).alloc (by simp) _
 have hC:Blk ((w.alloc (.cells #[.slice Ar d.revs.length cr,dr] 26)).alloc (.cells #[.int .i64 c.num,.string c.client,.string c.text,.slice Ae c.edits.length ce,.slice Ac c.recs.length cc] 95)) (w.heap.size+1) 95 [.int .i64 c.num,.string c.client,.string c.text,.slice Ae c.edits.length ce,.slice Ac c.recs.length cc]:=by
  have h1:=z0l (w.alloc (.cells #[.slice Ar d.revs.length cr,dr] 26)) [.int .i64 c.num,.string c.client,.string c.text,.slice Ae c.edits.length ce,.slice Ac c.recs.length cc] 95;simp only[World.size_alloc] at h1
  exact h1
 have hD:Blk ((w.alloc (.cells #[.slice Ar d.revs.length cr,dr] 26)).alloc (.cells #[.int .i64 c.num,.string c.client,.string c.text,.slice Ae c.edits.length ce,.slice Ac c.recs.length cc] 95)) w.heap.size 26 [.slice Ar d.revs.length cr,dr]:=(z0l w _ _).alloc _;have hld0:=fun X (hX:Below w.heap.size w X)=>z47.at_ (HE.out.below hX) hi;have HXM0:=hd_ (HSZ.out _ (List.getElem_mem hi));generalize c.edits[i]=x at hld0 HXM0;have HXM:Hid (x.path.size≤2000000):=hd_ HXM0.out.1;have HLD:=hd_ hld0;clear hld0;have HT8:=hd_ (fun T hT R g3 g4 g7 W hR hD hC hX hRR=>weT8 T hT R d.revs c x Ar Ae Ac dr cr ce cc g3 g4 g7 W hR hl hD hC hX hRR);go_enter func126,ntmps126;go_upto_region 1 with fail;generalize (w.alloc (.cells #[.slice Ar d.revs.length cr,dr] 26)).alloc (.cells #[.int .i64 c.num,.string c.client,.string c.text,.slice Ae c.edits.length ce,.slice Ac c.recs.length cc] 95)=W1 at hb0 hC hD ⊢;obtain⟨k0,k1,k2,k3,k4⟩:=zhx hC;obtain⟨ad,rfl,hab,hld⟩:=HLD.out _ hb0;have hiz:(i:Int)<(c.edits.length:Int):=by omega
 obtain⟨x0,x1,x2,x3,x4,x5,x6,x7,x8,x9,x10,x11⟩:=hld;have hX:=z0l W1 [.string x.path,.int .i64 x.act,.int .i64 x.ty.base,.bool x.ty.k,.bool x.ty.l,.bool x.ty.x,.int .u64 x.sum,.int .i64 x.size,.int .i64 x.base,.string x.frm,.int .i64 x.fnum,.int .i64 x.fence] 90;have hA1:=hb0.alloc hb0.size (.cells #[.string x.path,.int .i64 x.act,.int .i64 x.ty.base,.bool x.ty.k,.bool x.ty.l,.bool x.ty.x,.int .u64 x.sum,.int .i64 x.size,.int .i64 x.base,.string x.frm,.int .i64 x.fnum,.int .i64 x.fence] 90);have HC1:=hd_ (hC.alloc (.cells #[.string x.path,.int .i64 x.act,.int .i64 x.ty.base,.bool x.ty.k,.bool x.ty.l,.bool x.ty.x,.int .u64 x.sum,.int .i64 x.size,.int .i64 x.base,.string x.frm,.int .i64 x.fnum,.int .i64 x.fence] 90));have HD1:=hd_ (hD.alloc (.cells #[.string x.path,.int .i64 x.act,.int .i64 x.ty.base,.bool x.ty.k,.bool x.ty.l,.bool x.ty.x,.int .u64 x.sum,.int .i64 x.size,.int .i64 x.base,.string x.frm,.int .i64 x.fnum,.int .i64 x.fence] 90));go_upto_region 2 with fail;clear x0 x1 x2 x3 x4 x5 x6 x7 x8 x9 x10 x11 k0 k1 k2 k3 k4 hC hD hb0;generalize W1.alloc (.cells #[.string x.path,.int .i64 x.act,.int .i64 x.ty.base,.bool x.ty.k,.bool x.ty.l,.bool x.ty.x,.int .u64 x.sum,.int .i64 x.size,.int .i64 x.base,.string x.frm,.int .i64 x.fnum,.int .i64 x.fence] 90)=W2 at hX hA1 HC1 HD1 ⊢;generalize W1.heap.size=g7 at hX ⊢;have HX1:=hd_ hX;have HW1:=hd_ hA1;clear hX hA1;obtain⟨c0,c1,c2,c3,c4,c5,c6,c7,c8,c9,c10,c11⟩:=z7z HX1.out;cases hdp:z2q x.path.data.toList 2 with
 | none =>
  have HPN:=hd_ (z92 x.path W2 (HEN.out.below HW1.out) HXM.out hdp);clear hdp;go_wp2_with fail;refine HPN.out.mono ?_;rintro e w2 ⟨rfl,hb2⟩;have HB2:=hd_ hb2;clear hb2;go_wp2_with fail;go_ret;exact⟨⟨_,rfl⟩,z0r HW1.out HB2.out⟩
 | some ps =>
  have HPS:=hd_ (z91 x.path ps W2 (HEN.out.below HW1.out) HXM.out hdp);have hA2:Below W2.heap.size W2 (W2.alloc (.cells (z6v ps).toArray 9)):=(Below.refl _ _).alloc (Nat.le_refl _) _;clear hdp;go_wp2_with fail;refine HPS.out.mono ?_;rintro e w2 ⟨rfl,rfl⟩;have HX2:=hd_ (HX1.out.below hA2 HX1.out.lt);have HC2:=hd_ (HC1.out.below hA2 HC1.out.lt);have HD2:=hd_ (HD1.out.below hA2 HD1.out.lt);have HW2:=hd_ (z0r HW1.out hA2);clear hA2 c0 c1 c2 c3 c4 c5 c6 c7 c8 c9 c10 c11;generalize W2.alloc (.cells (z6v ps).toArray 9)=w2 at HX2 HC2 HD2 HW2 ⊢;generalize Value.slice (some ⟨W2.heap.size,0,none⟩) ps.length ps.length=pv;obtain⟨c0,c1,c2,c3,c4,c5,c6,c7,c8,c9,c10,c11⟩:=z7z HX2.out;by_cases h200:200<x.path.size
  case pos =>
   have q:decide ((200:Int)<(x.path.size:Int))=true:=by simp;omega
   clear h200;go_wp2_with fail;go_ret;exact⟨⟨_,rfl⟩,HW2.out⟩
  have q:decide ((200:Int)<(x.path.size:Int))=false:=by simp;omega
  clear h200;go_upto_region 5 with fail;clear q;go_cut [49] (fun v wx=>∃ bb,v=.bool bb∧Hid (Below w2.heap.size w2 wx))
  case first =>
   by_cases h0:i=0
   ·have d0:decide (0<i)=false:=by simp;omega
    have d1:decide ((0:Int)<(i:Int))=false:=by simp;omega
    clear h0;go_quiet (fail)
    go_wp2_with fail;go_meet
    exact⟨false,rfl,hd_ (z0p (Below.refl _ _) _)⟩
   ·obtain⟨j,rfl⟩:∃ j,i=j+1:=⟨i - 1,by omega⟩
    have hj:j<c.edits.length:=by omega
    obtain⟨ad2,had,hab2,hld2⟩:=z47.at_ (HE.out.below HW2.out) hj;injection had with had
    subst had;have HSY:=hd_ (HSZ.out _ (List.getElem_mem hj));generalize c.edits[j]=y at hld2 HSY;have e0:=hld2.1;obtain⟨k0,k1,k2,k3,k4⟩:=zhx HC2.out;have d0:decide (0<j+1)=true:=by simp
    have d1:decide ((0:Int)<((j+1:Nat):Int))=true:=decide_eq_true (by omega)
    have d2:decide ((0:Int)<(j:Int)+1)=true:=decide_eq_true (by omega)
    have hwp:IntKind.i64.wrap (j:Int)=(j:Int):=by rw[IntKind.wrap_i64];omega
    have hjz:(j:Int)<(c.edits.length:Int):=by omega
    have HOR:=hd_ (fun X (hX:Below w2.heap.size w2 X)=>zhq y.path x.path X (HEN.out.below (z0r HW2.out hX)) HSY.out.1 HXM.out);clear hld2 h0;refine wp_region_noPanic ?_;first
     | go_region_law (go_simp;go_at_call 175;refine (HOR.out _ (Below.refl _ _).drew).mono ?_;rintro e w5 ⟨n,rfl,hb5,hn⟩;have HB5:=hd_ ((Below.refl w2.heap.size w2).drew.trans hb5);clear hb5 hn)
     | fail
    all_goals
     refine NoPanic.normal ?_;go_wp2_with fail;go_meet
     exact⟨decide (0≤n),rfl,HB5⟩
  case rest =>
   obtain⟨bb,rfl,HBB⟩:=hcut;have HW3:=hd_ (z0r HW2.out HBB.out);have HX3:=hd_ (HX2.out.below HBB.out HX2.out.lt);have HD3:=hd_ (HD2.out.below HBB.out HD2.out.lt);have HC3:=hd_ (HC2.out.below HBB.out HC2.out.lt);cases bb with
   | true =>
    go_wp2_with fail;go_ret;exact⟨⟨_,rfl⟩,HW3.out⟩
   | false =>
    clear HBB;generalize wc=w30 at HW3 HX3 HD3 HC3 ⊢;obtain⟨d0,d1,-,-⟩:=box2 HD3.out;obtain⟨c0,c1,c2,c3,c4,c5,c6,c7,c8,c9,c10,c11⟩:=z7z HX3.out;have HLV1:=hd_ (HLIVE.out x.path w30 HW3.out);go_upto_region 7 with fail;go_cut [10,11] (fun v10 v11 wx=>∃(lv:Bool) (ln:Int),v10=.bool lv∧v11=.int .i64 ln∧Hid (Below w30.heap.size w30 wx))
    case first =>
     go_wp2_with fail;refine HLV1.out.mono ?_;rintro e w3 ⟨rfl,hb3⟩;have HB3:=hd_ hb3;clear hb3;go_wp2_with fail;go_meet
     exact⟨_,_,rfl,rfl,HB3⟩
    case rest =>
     obtain⟨lv,ln,rfl,rfl,HV⟩:=hcut;have hk:=‹∀(a:Act) (w:World),Code.wp _ _ _ a w→_›;refine hk _ _ (HT8.out _ (by kernel_rfl) _ _ _ _ _ (HR.out.below (z0r HW3.out HV.out)) (HD3.out.below HV.out HD3.out.lt) (HC3.out.below HV.out HC3.out.lt) (HX3.out.below HV.out HX3.out.lt) (fun n w' hb=>⟨⟨n,rfl⟩,z0r (z0r HW3.out HV.out) hb⟩) _ _ _ _ _ _ _ _ _ _ _ _ _ _ _ _ _ _ _ _ _ _ _ _ _ _ _ _ _ _ _ _ _ _ _ _ _ _ _ _ _ _ _ _ _ _ _ _ _ _ _ _ _ _ _ _ _ _ _ _ _ _ _ _ _ _ _ _ _ _ _ _ _ _ _ _ _ _ _ _ _ _ _ _ _ _ _ _ _ _ _ _ _ _ _ _ _ _ _ _ _ _ _ _ _ _ _ _ _ _ _ _ _ _ _ _ _ _ _ _ _ _ _ _ _ _ _ _ _ _ _ _ _ _ _ _ _ _ _ _ _ _ _ lv ln HXM0.out.2)
theorem zrf (q:Pat)(A:Option Addr)(c b:Nat)(p:ByteArray)(w:World)(he:Env w)(hq:za9 w (.slice A q.parts.length c) q)(hp:w.cell? ⟨b,0,none⟩=some (.string p))(hz:p.size≤1000000):
  Calls prog 83 #[.agg #[.slice A q.parts.length c,.bool q.rest],.pointer (some ⟨b,0,none⟩)] w fun e w'=>e=.returned (.bool (z8e q p).isSome)∧Below w.heap.size w w':=by
 have hB:=z0l w [.slice A q.parts.length c,.bool q.rest] 97;have hA:Below w.heap.size w (w.alloc (.cells #[.slice A q.parts.length c,.bool q.rest] 97)):=(Below.refl _ _).alloc (Nat.le_refl _) _;have HM:=hd_ (fun X (hX:Below w.heap.size w X)=>zbk q p A c X (he.below hX) hz (hq.below hX).1 hq.small);have d2:(w.alloc (.cells #[.slice A q.parts.length c,.bool q.rest] 97)).cell? ⟨b,0,none⟩=some (.string p):=(hA.cell (block_lt_of_cell hp)).trans hp;clear he hq hp;go_enter func83,ntmps83;go_upto_region 1 with fail;generalize w.alloc (.cells #[.slice A q.parts.length c,.bool q.rest] 97)=W1 at hB hA d2 ⊢;have d0:W1.cell? ⟨w.heap.size,0,none⟩=some (.slice A q.parts.length c):=hB.cell 0;have d1:W1.cell? ⟨w.heap.size,1,none⟩=some (.bool q.rest):=hB.cell 1;have HC:=hd_ (HM.out W1 hA);have HA:=hd_ hA;clear hA hB HM;generalize z8e q p=o at HC ⊢;go_wp2_with fail;refine HC.out.mono ?_;rintro e w2 ⟨A',n,c',rfl,hb,-⟩;have HB:=hd_ (z0r HA.out hb);clear hb d0 d1 d2;go_wp2_with fail;go_ret;exact⟨rfl,HB.out⟩
theorem zrg (hs:List zd1)(H:Option Addr)(hc b:Nat)(p:ByteArray)(w:World)(he:Env w)(hh:zd2 w (.slice H hs.length hc) hs)(hp:w.cell? ⟨b,0,none⟩=some (.string p))(hz:p.size≤1000000)(hn:hs.length≤1000):
  Calls prog 106 #[.slice H hs.length hc,.func (.func 83) #[] #[.pointer (some ⟨b,0,none⟩)]] w fun e w'=>(∃ i:Int,e=.returned (.int .i64 i)∧decide (0≤i)=zdp hs p)∧Below w.heap.size w w':=by
 have HE:=hd_ he;have HH:=hd_ hh;have HP:=hd_ hp;have HNO:Hid (∀ k (hk:k<hs.length),(z8e hs[k].1 p).isSome=true→zdp hs p=true):=hd_ (fun k hk h=>List.any_eq_true.2 ⟨_,List.getElem_mem hk,h⟩);have HYE:Hid ((∀ k (hk:k<hs.length),(z8e hs[k].1 p).isSome=false)→zdp hs p=false):=hd_ (fun h=>by
  unfold zdp;rw[List.any_eq_false];intro q hq;obtain⟨k,hk,rfl⟩:=List.getElem_of_mem hq;rw[h k hk];decide)
 generalize zdp hs p=r at HNO HYE ⊢;clear he hh hp;go_enter func106,ntmps106;go_wp2_with fail;go_loopw [8] (fun i wr=>∃ k:Nat,i=.int .i64 k∧k≤hs.length∧Hid (Below w.heap.size w wr∧∀ j (hj:j<hs.length),j<k→(z8e hs[j].1 p).isSome=false)) (fun i _=>hs.length - (intOf i).toNat)
 case atStart=>exact⟨0,rfl,Nat.zero_le _,hd_ ⟨Below.refl _ _,fun j _ h=>by omega⟩⟩
 case round =>
  obtain⟨k,rfl,hk,HI⟩:=hrel;by_cases hlt:k<hs.length
  ·have HHX:=hd_ (HH.out.below HI.out.1);obtain⟨ad,rfl,hab,s0,s1⟩:=HHX.out.at_ hlt;have HPK:=hd_ (HHX.out.2 hs[k] (List.getElem_mem hlt));have HNK:=hd_ (HNO.out k hlt);have HJ:Hid ((z8e hs[k].1 p).isSome=false→∀ j (hj:j<hs.length),j<k+1→(z8e hs[j].1 p).isSome=false):=hd_ (fun h j hj hjk=>by
    by_cases e:j=k
    ·subst e;exact h
    ·exact HI.out.2 j hj (by omega))
   generalize hs[k]=q at s0 s1 HPK HNK HJ;obtain⟨q,Aq,cq⟩:=q;change wr.cell? _=some (.slice Aq q.parts.length cq) at s0;change wr.cell? _=some (.bool q.rest) at s1;have HC:=hd_ (zrf q Aq cq b p wr (HE.out.below HI.out.1) HPK.out ((HI.out.1.cell (block_lt_of_cell HP.out)).trans HP.out) hz);obtain⟨o,ho⟩:∃ o,(z8e q p).isSome=o:=⟨_,rfl⟩;rw[ho] at HC;have HO:=hd_ ho;have HLT:=hd_ hlt;clear hab ho;cases o with
   | true =>
    have HR:=hd_ (HNK.out HO.out);go_wp2_with fail;refine HC.out.mono ?_;rintro e w2 ⟨rfl,hb⟩;have HB:=hd_ (z0r HI.out.1 hb);clear hb s0 s1;go_wp2_with fail;go_ret;exact⟨⟨(k:Int),rfl,by rw[HR.out];exact decide_eq_true (by omega)⟩,HB.out⟩
   | false =>
    have HR:=hd_ (HJ.out HO.out);go_wp2_with fail;refine HC.out.mono ?_;rintro e w2 ⟨rfl,hb⟩;have HB:=hd_ (z0r HI.out.1 hb);clear hb s0 s1;go_wp2_with fail;go_roundw
    case rel=>exact⟨k+1,by go_num,by omega,hd_ ⟨HB.out,HR.out⟩⟩
    case measure=>simp [intOf];omega
  ·have hke:k=hs.length:=by omega
   subst hke;have HR:=hd_ (HYE.out (fun j hj=>HI.out.2 j hj hj));have HB:=hd_ HI.out.1;have hge:¬((hs.length:Int)<(hs.length:Int)):=by omega
   go_wp2_with fail;go_ret;exact⟨⟨-1,rfl,by rw[HR.out];decide⟩,HB.out⟩
theorem zrh (hs:List zd1)(H:Option Addr)(hc b:Nat)(p:ByteArray)(w:World)(he:Env w)(hh:zd2 w (.slice H hs.length hc) hs)(hp:w.cell? ⟨b,0,none⟩=some (.string p))(hz:p.size≤1000000)(hn:hs.length≤1000):
  Calls prog 69 #[.slice H hs.length hc,.func (.func 83) #[] #[.pointer (some ⟨b,0,none⟩)]] w fun e w'=>e=.returned (.bool (zdp hs p))∧Below w.heap.size w w':=by
 have HC:=hd_ (zrg hs H hc b p w he hh hp hz hn);clear he hh hp;generalize zdp hs p=r at HC ⊢;go_enter func69,ntmps69;go_wp2_with fail;refine HC.out.mono ?_;rintro e w2 ⟨⟨i,rfl,hi⟩,hb⟩;have HI:=hd_ hi;have HB:=hd_ hb;clear hi hb;go_wp2_with fail;go_ret;exact⟨by rw[← HI.out];rfl,HB.out⟩
theorem has_ok (q:Pat)(hs:List zd1)(A H:Option Addr)(a hc:Nat)(p:ByteArray)(w:World)(he:Env w)(hb:za9 w (.slice A q.parts.length a) q)(hh:zd2 w (.slice H hs.length hc) hs)(hl:hs.length≤1000)(h0:zd3 q hs=0)(hz:p.size≤1000000):
  Calls prog 53 #[.agg #[.slice A q.parts.length a,.bool q.rest,.slice H hs.length hc],.string p] w fun e w'=>e=.returned (.bool ((z8e q p).isSome && !zdp hs p))∧Below w.heap.size w w':=by
 obtain⟨W1,hW1⟩:∃ W,W=(w.alloc (.cells #[.slice A q.parts.length a,.bool q.rest,.slice H hs.length hc] 115)).alloc (.cells #[.string p] 9):=⟨_,rfl⟩;have hb1:Below w.heap.size w W1:=by rw[hW1];exact ((Below.refl _ _).alloc (Nat.le_refl _) _).alloc (by simp) _
 have hx1:Blk W1 w.heap.size 115 [.slice A q.parts.length a,.bool q.rest,.slice H hs.length hc]:=by rw[hW1];exact (z0l w _ _).alloc _
 have hy1:Blk W1 (w.heap.size+1) 9 [.string p]:=by
  rw[hW1];have:=z0l (w.alloc (.cells #[.slice A q.parts.length a,.bool q.rest,.slice H hs.length hc] 115)) [.string p] 9;simp only[World.size_alloc] at this
  exact this
 have HCK:=hd_ (zd7 q hs A H a hc W1 (hb.below hb1) (hh.below hb1) (by omega))
 rw[h0] at HCK;have HBS:=hd_ (fun X (hX:Below W1.heap.size W1 X)=>zrf q A a (w.heap.size+1) p X (he.below (z0r hb1 hX)) (hb.below (z0r hb1 hX)) ((hy1.below hX hy1.lt).cell 0) hz);have HHS:=hd_ (fun X (hX:Below W1.heap.size W1 X)=>zrh hs H hc (w.heap.size+1) p X (he.below (z0r hb1 hX)) (hh.below (z0r hb1 hX)) ((hy1.below hX hy1.lt).cell 0) hz hl);have HB1:=hd_ hb1;have HX1:=hd_ hx1;have HW:=hd_ hW1;clear he hb hh h0 hb1 hx1 hy1 hW1;generalize zdp hs p=b2 at HHS ⊢;obtain⟨b1,hb1⟩:∃ b1,(z8e q p).isSome=b1:=⟨_,rfl⟩;rw[hb1] at HBS ⊢;clear hb1;go_enter func53,ntmps53;go_upto_region 1 with fail;rw[← HW.out];obtain⟨x0,x1,x2⟩:=(⟨HX1.out.cell 0,HX1.out.cell 1,HX1.out.cell 2⟩:W1.cell? ⟨w.heap.size,0,none⟩=some (.slice A q.parts.length a)∧W1.cell? ⟨w.heap.size,1,none⟩=some (.bool q.rest)∧W1.cell? ⟨w.heap.size,2,none⟩=some (.slice H hs.length hc));go_wp2_with fail;refine HCK.out.mono ?_;rintro e w2 ⟨rfl,hb2⟩;have HB2:=hd_ hb2;clear x0 x1 x2 hb2 HCK HW;obtain⟨x0,x1,x2⟩:=(⟨(HX1.out.below HB2.out HX1.out.lt).cell 0,(HX1.out.below HB2.out HX1.out.lt).cell 1,(HX1.out.below HB2.out HX1.out.lt).cell 2⟩:w2.cell? ⟨w.heap.size,0,none⟩=some (.slice A q.parts.length a)∧w2.cell? ⟨w.heap.size,1,none⟩=some (.bool q.rest)∧w2.cell? ⟨w.heap.size,2,none⟩=some (.slice H hs.length hc));have HBX:=hd_ (HBS.out w2 HB2.out);clear HBS;cases b1 with
 | false =>
  go_wp2_with fail;refine HBX.out.mono ?_;rintro e w3 ⟨rfl,hb3⟩;have HB3:=hd_ (z0r HB1.out (z0r HB2.out hb3));clear hb3 x0 x1 x2 HBX;go_wp2_with fail;go_ret;exact⟨rfl,HB3.out⟩
 | true =>
  go_wp2_with fail;refine HBX.out.mono ?_;rintro e w3 ⟨rfl,hb3⟩;have HB3:=hd_ (z0r HB2.out hb3);have HHX:=hd_ (HHS.out w3 HB3.out);clear hb3 x0 x1 x2 HBX HHS;have x2:w3.cell? ⟨w.heap.size,2,none⟩=some (.slice H hs.length hc):=(HX1.out.below HB3.out HX1.out.lt).cell 2;go_wp2_with fail;refine HHX.out.mono ?_;rintro e w4 ⟨rfl,hb4⟩;have HB4:=hd_ (z0r HB1.out (z0r HB3.out hb4));clear hb4 x2 HHX;go_wp2_with fail;go_ret;exact⟨rfl,HB4.out⟩
theorem zri (es:List zd8)(mv:Value)(g:Nat)(w:World)(hB:Blk w g 27 [mv])(hE:zdi w mv es)(hM:zdj es):
  Calls prog 52 #[.slice (some ⟨g,0,none⟩) 1 1] w fun e w'=>e=.returned (.int .i64 0)∧Below w.heap.size w w':=by
 have HC:=hd_ (zdn es mv w hE hM);have b0:w.cell? ⟨g,0,none⟩=some mv:=hB.cell 0;clear hB hE hM;go_enter func52,ntmps52;go_wp2_with fail;refine wp_loop_rounds 2 ?_;rw[rounds_succ];go_wp2_with fail;refine HC.out.mono ?_;rintro e w2 ⟨rfl,hb2⟩;have HB:=hd_ hb2;clear hb2 b0;go_wp2_with fail;rw[rounds_succ];go_wp2_with fail;go_ret;exact⟨rfl,HB.out⟩
end Go.Proofs.YtegeboijhifmcaaGreatDoor
