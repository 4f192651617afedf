/- A part of the proof. -/
import Derived.Test.YtegeboijhifmcaaGreatDoorMgw17
import Derived.Test.YtegeboijhifmcaaGreatDoorMgw20
set_option linter.unusedVariables false
set_option linter.unusedSimpArgs false
set_option maxHeartbeats 4000000
set_option maxRecDepth 100000
namespace Go.Proofs.YtegeboijhifmcaaGreatDoor
open Go.Proofs.Tryz
open Go.RowKit
theorem zhx {w:World}{g:Nat}{e:TypeId}{a b c d x:Value}(h:Blk w g e [a,b,c,d,x]):
  w.cell? ⟨g,0,none⟩=some a∧w.cell? ⟨g,1,none⟩=some b∧w.cell? ⟨g,2,none⟩=some c∧w.cell? ⟨g,3,none⟩=some d∧w.cell? ⟨g,4,none⟩=some x:=
 ⟨h.cell 0,h.cell 1,h.cell 2,h.cell 3,h.cell 4⟩
def zhy (n:Int)(x:Edt):Rev:=⟨x.path,x.base+1,n,x.act,x.ty,x.sum,x.size,x.frm,x.fnum⟩
theorem zhz (num:Int)(cl tx:ByteArray)(Ae Ac:Option Addr)(ne nc ce cc:Nat)(x:Edt)(w:World)(hb:0≤x.base∧x.base≤1000000):
  Calls prog 87 #[.agg #[.int .i64 num,.string cl,.string tx,.slice Ae ne ce,.slice Ac nc cc],.agg #[.string x.path,.int .i64 x.act,.int .i64 x.ty.base,.bool x.ty.k,.bool x.ty.l,.bool x.ty.x,.int .u64 x.sum,.int .i64 x.size,.int .i64 x.base,.string x.frm,.int .i64 x.fnum,.int .i64 x.fence]] w fun e w'=>e=.returned (.agg #[.string (zhy num x).path,.int .i64 (zhy num x).num,.int .i64 (zhy num x).chg,.int .i64 (zhy num x).act,.int .i64 (zhy num x).ty.base,.bool (zhy num x).ty.k,.bool (zhy num x).ty.l,.bool (zhy num x).ty.x,.int .u64 (zhy num x).sum,.int .i64 (zhy num x).size,.string (zhy num x).frm,.int .i64 (zhy num x).fnum])∧Below w.heap.size w w':=by
 have hb0:Below w.heap.size w (((w.alloc (.cells #[.int .i64 num,.string cl,.string tx,.slice Ae ne ce,.slice Ac nc cc] 95)).alloc (.cells #[.string x.path,.int .i64 x.act,.int .i64 x.ty.base,.bool x.ty.k,.bool x.ty.l,.bool x.ty.x,.int .u64 x.sum,.int .i64 x.size,.int .i64 x.base,.string x.frm,.int .i64 x.fnum,.int .i64 x.fence] 90)).alloc (.cells #[.string ⟨#[]⟩,.int .i64 0,.int .i64 0,.int .i64 0,.int .i64 0,.bool false,.bool false,.bool false,.int .u64 0,.int .i64 0,.string ⟨#[]⟩,.int .i64 0] 66)):=(((Below.refl _ _).alloc (Nat.le_refl _) _).alloc (by simp) _).alloc (by simp;omega) _
 have hZ:Blk (((w.alloc (.cells #[.int .i64 num,.string cl,.string tx,.slice Ae ne ce,.slice Ac nc cc] 95)).alloc (.cells #[.string x.path,.int .i64 x.act,.int .i64 x.ty.base,.bool x.ty.k,.bool x.ty.l,.bool x.ty.x,.int .u64 x.sum,.int .i64 x.size,.int .i64 x.base,.string x.frm,.int .i64 x.fnum,.int .i64 x.fence] 90)).alloc (.cells #[.string ⟨#[]⟩,.int .i64 0,.int .i64 0,.int .i64 0,.int .i64 0,.bool false,.bool false,.bool false,.int .u64 0,.int .i64 0,.string ⟨#[]⟩,.int .i64 0] 66)) (w.heap.size+1+1) 66 [.string ⟨#[]⟩,.int .i64 0,.int .i64 0,.int .i64 0,.int .i64 0,.bool false,.bool false,.bool false,.int .u64 0,.int .i64 0,.string ⟨#[]⟩,.int .i64 0]:=by
  have h1:=z0l ((w.alloc (.cells #[.int .i64 num,.string cl,.string tx,.slice Ae ne ce,.slice Ac nc cc] 95)).alloc (.cells #[.string x.path,.int .i64 x.act,.int .i64 x.ty.base,.bool x.ty.k,.bool x.ty.l,.bool x.ty.x,.int .u64 x.sum,.int .i64 x.size,.int .i64 x.base,.string x.frm,.int .i64 x.fnum,.int .i64 x.fence] 90)) [.string ⟨#[]⟩,.int .i64 0,.int .i64 0,.int .i64 0,.int .i64 0,.bool false,.bool false,.bool false,.int .u64 0,.int .i64 0,.string ⟨#[]⟩,.int .i64 0] 66;simp only[World.size_alloc] at h1
  exact h1
 have hV:Blk (((w.alloc (.cells #[.int .i64 num,.string cl,.string tx,.slice Ae ne ce,.slice Ac nc cc] 95)).alloc (.cells #[.string x.path,.int .i64 x.act,.int .i64 x.ty.base,.bool x.ty.k,.bool x.ty.l,.bool x.ty.x,.int .u64 x.sum,.int .i64 x.size,.int .i64 x.base,.string x.frm,.int .i64 x.fnum,.int .i64 x.fence] 90)).alloc (.cells #[.string ⟨#[]⟩,.int .i64 0,.int .i64 0,.int .i64 0,.int .i64 0,.bool false,.bool false,.bool false,.int .u64 0,.int .i64 0,.string ⟨#[]⟩,.int .i64 0] 66)) (w.heap.size+1) 90 [.string x.path,.int .i64 x.act,.int .i64 x.ty.base,.bool x.ty.k,.bool x.ty.l,.bool x.ty.x,.int .u64 x.sum,.int .i64 x.size,.int .i64 x.base,.string x.frm,.int .i64 x.fnum,.int .i64 x.fence]:=by
  have h1:=(z0l (w.alloc (.cells #[.int .i64 num,.string cl,.string tx,.slice Ae ne ce,.slice Ac nc cc] 95)) [.string x.path,.int .i64 x.act,.int .i64 x.ty.base,.bool x.ty.k,.bool x.ty.l,.bool x.ty.x,.int .u64 x.sum,.int .i64 x.size,.int .i64 x.base,.string x.frm,.int .i64 x.fnum,.int .i64 x.fence] 90).alloc (.cells #[.string ⟨#[]⟩,.int .i64 0,.int .i64 0,.int .i64 0,.int .i64 0,.bool false,.bool false,.bool false,.int .u64 0,.int .i64 0,.string ⟨#[]⟩,.int .i64 0] 66);simp only[World.size_alloc] at h1
  exact h1
 have hB:Blk (((w.alloc (.cells #[.int .i64 num,.string cl,.string tx,.slice Ae ne ce,.slice Ac nc cc] 95)).alloc (.cells #[.string x.path,.int .i64 x.act,.int .i64 x.ty.base,.bool x.ty.k,.bool x.ty.l,.bool x.ty.x,.int .u64 x.sum,.int .i64 x.size,.int .i64 x.base,.string x.frm,.int .i64 x.fnum,.int .i64 x.fence] 90)).alloc (.cells #[.string ⟨#[]⟩,.int .i64 0,.int .i64 0,.int .i64 0,.int .i64 0,.bool false,.bool false,.bool false,.int .u64 0,.int .i64 0,.string ⟨#[]⟩,.int .i64 0] 66)) w.heap.size 95 [.int .i64 num,.string cl,.string tx,.slice Ae ne ce,.slice Ac nc cc]:=((z0l w _ _).alloc _).alloc _;have b0:0≤x.base:=hb.1;have b1:x.base≤1000000:=hb.2;clear hb;go_enter func87,ntmps87;go_upto_region 1 with fail;generalize ((w.alloc (.cells #[.int .i64 num,.string cl,.string tx,.slice Ae ne ce,.slice Ac nc cc] 95)).alloc (.cells #[.string x.path,.int .i64 x.act,.int .i64 x.ty.base,.bool x.ty.k,.bool x.ty.l,.bool x.ty.x,.int .u64 x.sum,.int .i64 x.size,.int .i64 x.base,.string x.frm,.int .i64 x.fnum,.int .i64 x.fence] 90)).alloc (.cells #[.string ⟨#[]⟩,.int .i64 0,.int .i64 0,.int .i64 0,.int .i64 0,.bool false,.bool false,.bool false,.int .u64 0,.int .i64 0,.string ⟨#[]⟩,.int .i64 0] 66)=W1 at hb0 hZ hV hB ⊢;obtain⟨d0,d1,d2,d3,d4⟩:=zhx hB;obtain⟨c0,c1,c2,c3,c4,c5,c6,c7,c8,c9,c10,c11⟩:=z7z hV;obtain⟨z0,z1,z2,z3,z4,z5,z6,z7,z8,z9,z10,z11⟩:=z7z hZ;obtain⟨y0,y1,y2,y3,y4,y5,y6,y7,y8,y9,y10,y11⟩:=zdz hZ;have HZ:=hd_ hZ;have Hb0:=hd_ hb0;clear hb0 hZ hV hB;go_wp2_with fail;have hZ3:=ze0 HZ.out (zhy num x);have hB3:=ze1 Hb0.out (show w.heap.size≤w.heap.size+1+1 by omega) (zhy num x)
 clear d0 d1 d2 d3 d4 c0 c1 c2 c3 c4 c5 c6 c7 c8 c9 c10 c11 z0 z1 z2 z3 z4 z5 z6 z7 z8 z9 z10 z11 y0 y1 y2 y3 y4 y5 y6 y7 y8 y9 y10 y11;have e:((((((((((((W1.setCell ⟨w.heap.size+1+1,0,none⟩ (.string (zhy num x).path)).setCell ⟨w.heap.size+1+1,1,none⟩ (.int .i64 (zhy num x).num)).setCell ⟨w.heap.size+1+1,2,none⟩ (.int .i64 (zhy num x).chg)).setCell ⟨w.heap.size+1+1,3,none⟩ (.int .i64 (zhy num x).act)).setCell ⟨w.heap.size+1+1,4,none⟩ (.int .i64 (zhy num x).ty.base)).setCell ⟨w.heap.size+1+1,5,none⟩ (.bool (zhy num x).ty.k)).setCell ⟨w.heap.size+1+1,6,none⟩ (.bool (zhy num x).ty.l)).setCell ⟨w.heap.size+1+1,7,none⟩ (.bool (zhy num x).ty.x)).setCell ⟨w.heap.size+1+1,8,none⟩ (.int .u64 (zhy num x).sum)).setCell ⟨w.heap.size+1+1,9,none⟩ (.int .i64 (zhy num x).size)).setCell ⟨w.heap.size+1+1,10,none⟩ (.string (zhy num x).frm)).setCell ⟨w.heap.size+1+1,11,none⟩ (.int .i64 (zhy num x).fnum))=((((((((((((W1.setCell ⟨w.heap.size+1+1,0,none⟩ (.string ((⟨x.path,x.base+1,num,x.act,x.ty,x.sum,x.size,x.frm,x.fnum⟩:Rev)).path)).setCell ⟨w.heap.size+1+1,1,none⟩ (.int .i64 ((⟨x.path,x.base+1,num,x.act,x.ty,x.sum,x.size,x.frm,x.fnum⟩:Rev)).num)).setCell ⟨w.heap.size+1+1,2,none⟩ (.int .i64 ((⟨x.path,x.base+1,num,x.act,x.ty,x.sum,x.size,x.frm,x.fnum⟩:Rev)).chg)).setCell ⟨w.heap.size+1+1,3,none⟩ (.int .i64 ((⟨x.path,x.base+1,num,x.act,x.ty,x.sum,x.size,x.frm,x.fnum⟩:Rev)).act)).setCell ⟨w.heap.size+1+1,4,none⟩ (.int .i64 ((⟨x.path,x.base+1,num,x.act,x.ty,x.sum,x.size,x.frm,x.fnum⟩:Rev)).ty.base)).setCell ⟨w.heap.size+1+1,5,none⟩ (.bool ((⟨x.path,x.base+1,num,x.act,x.ty,x.sum,x.size,x.frm,x.fnum⟩:Rev)).ty.k)).setCell ⟨w.heap.size+1+1,6,none⟩ (.bool ((⟨x.path,x.base+1,num,x.act,x.ty,x.sum,x.size,x.frm,x.fnum⟩:Rev)).ty.l)).setCell ⟨w.heap.size+1+1,7,none⟩ (.bool ((⟨x.path,x.base+1,num,x.act,x.ty,x.sum,x.size,x.frm,x.fnum⟩:Rev)).ty.x)).setCell ⟨w.heap.size+1+1,8,none⟩ (.int .u64 ((⟨x.path,x.base+1,num,x.act,x.ty,x.sum,x.size,x.frm,x.fnum⟩:Rev)).sum)).setCell ⟨w.heap.size+1+1,9,none⟩ (.int .i64 ((⟨x.path,x.base+1,num,x.act,x.ty,x.sum,x.size,x.frm,x.fnum⟩:Rev)).size)).setCell ⟨w.heap.size+1+1,10,none⟩ (.string ((⟨x.path,x.base+1,num,x.act,x.ty,x.sum,x.size,x.frm,x.fnum⟩:Rev)).frm)).setCell ⟨w.heap.size+1+1,11,none⟩ (.int .i64 ((⟨x.path,x.base+1,num,x.act,x.ty,x.sum,x.size,x.frm,x.fnum⟩:Rev)).fnum)):=rfl
 dsimp only at e
 rw[← e];generalize ((((((((((((W1.setCell ⟨w.heap.size+1+1,0,none⟩ (.string (zhy num x).path)).setCell ⟨w.heap.size+1+1,1,none⟩ (.int .i64 (zhy num x).num)).setCell ⟨w.heap.size+1+1,2,none⟩ (.int .i64 (zhy num x).chg)).setCell ⟨w.heap.size+1+1,3,none⟩ (.int .i64 (zhy num x).act)).setCell ⟨w.heap.size+1+1,4,none⟩ (.int .i64 (zhy num x).ty.base)).setCell ⟨w.heap.size+1+1,5,none⟩ (.bool (zhy num x).ty.k)).setCell ⟨w.heap.size+1+1,6,none⟩ (.bool (zhy num x).ty.l)).setCell ⟨w.heap.size+1+1,7,none⟩ (.bool (zhy num x).ty.x)).setCell ⟨w.heap.size+1+1,8,none⟩ (.int .u64 (zhy num x).sum)).setCell ⟨w.heap.size+1+1,9,none⟩ (.int .i64 (zhy num x).size)).setCell ⟨w.heap.size+1+1,10,none⟩ (.string (zhy num x).frm)).setCell ⟨w.heap.size+1+1,11,none⟩ (.int .i64 (zhy num x).fnum))=W3 at hZ3 hB3 ⊢;obtain⟨e0,e1,e2,e3,e4,e5,e6,e7,e8,e9,e10,e11⟩:=z7z hZ3;refine bodyPost_ret (v:=.agg #[.string (zhy num x).path,.int .i64 (zhy num x).num,.int .i64 (zhy num x).chg,.int .i64 (zhy num x).act,.int .i64 (zhy num x).ty.base,.bool (zhy num x).ty.k,.bool (zhy num x).ty.l,.bool (zhy num x).ty.x,.int .u64 (zhy num x).sum,.int .i64 (zhy num x).size,.string (zhy num x).frm,.int .i64 (zhy num x).fnum]) (by simp [results,results87,go_sem,e0,e1,e2,e3,e4,e5,e6,e7,e8,e9,e10,e11]) rfl ⟨rfl,hB3⟩
def zi0 (revs:List Rev)(p:ByteArray):Bool:=match zgs revs p with
 | none=>false
 | some r=>z2v r.act
theorem zi1 {revs:List Rev}{p:ByteArray}:(zgs revs p=none→zi0 revs p=false)∧∀ r,zgs revs p=some r→zi0 revs p=z2v r.act:=by
 unfold zi0;exact⟨fun h=>by rw[h],fun r h=>by rw[h]⟩
theorem zi2 (revs:List Rev)(p:ByteArray)(dv dr:Value)(w:World)(hR:z45 w dv revs)(hl:revs.length≤1000000):
  Calls prog 89 #[.agg #[dv,dr],.string p] w fun e w'=>e=.returned (.tuple #[.bool (zi0 revs p),.int .i64 (zec (zgs revs p)).num])∧Below w.heap.size w w':=by
 obtain⟨Ar,cr,rfl,-⟩:=id hR;have HR:=hd_ hR;clear hR;have HAT:=hd_ (@zi1 revs p);go_enter func89,ntmps89;have hb0:Below w.heap.size w (w.alloc (.cells #[.slice Ar revs.length cr,dr] 26)):=(Below.refl _ _).alloc (Nat.le_refl _) _;have hB:=z0l w [.slice Ar revs.length cr,dr] 26;go_upto_region 1 with fail;generalize w.alloc (.cells #[.slice Ar revs.length cr,dr] 26)=W1 at hb0 hB ⊢;obtain⟨d0,d1,-,-⟩:=box2 hB;have HLS:=hd_ (zh1 revs p (.slice Ar revs.length cr) dr W1 (HR.out.below hb0) hl);have Hb0:=hd_ hb0;clear hb0 hB;go_wp2_with fail;refine HLS.out.mono ?_;rintro e w2 ⟨rfl,hb2⟩;clear d0 d1 HLS;have HB2:=hd_ hb2;clear hb2;generalize hro:zgs revs p=o at HAT ⊢;have HRO:=hd_ hro;clear hro;cases o with
 | none =>
  have HN:=hd_ (HAT.out.1 rfl);have hY:=z0l w2 [.string z2m.path,.int .i64 z2m.num,.int .i64 z2m.chg,.int .i64 z2m.act,.int .i64 z2m.ty.base,.bool z2m.ty.k,.bool z2m.ty.l,.bool z2m.ty.x,.int .u64 z2m.sum,.int .i64 z2m.size,.string z2m.frm,.int .i64 z2m.fnum] 66;have hA5:Below w.heap.size w (w2.alloc (.cells #[.string z2m.path,.int .i64 z2m.num,.int .i64 z2m.chg,.int .i64 z2m.act,.int .i64 z2m.ty.base,.bool z2m.ty.k,.bool z2m.ty.l,.bool z2m.ty.x,.int .u64 z2m.sum,.int .i64 z2m.size,.string z2m.frm,.int .i64 z2m.fnum] 66)):=z0r Hb0.out (zcf HB2.out _);have hsu:zec none=z2m:=rfl;go_upto_region 2 with fail;clear hsu HAT;generalize w2.alloc (.cells #[.string z2m.path,.int .i64 z2m.num,.int .i64 z2m.chg,.int .i64 z2m.act,.int .i64 z2m.ty.base,.bool z2m.ty.k,.bool z2m.ty.l,.bool z2m.ty.x,.int .u64 z2m.sum,.int .i64 z2m.size,.string z2m.frm,.int .i64 z2m.fnum] 66)=V3 at hY hA5 ⊢;obtain⟨b0,b1,b2,b3,b4,b5,b6,b7,b8,b9,b10,b11⟩:=z7z hY;have HA5:=hd_ hA5;clear hY hA5;go_quiet (fail)
  go_wp2_with fail;go_ret2;exact⟨by rw[HN.out,HRO.out];rfl,z0p HA5.out _⟩
 | some r =>
  have HN:=hd_ (HAT.out.2 r rfl);have hY:=z0l w2 [.string r.path,.int .i64 r.num,.int .i64 r.chg,.int .i64 r.act,.int .i64 r.ty.base,.bool r.ty.k,.bool r.ty.l,.bool r.ty.x,.int .u64 r.sum,.int .i64 r.size,.string r.frm,.int .i64 r.fnum] 66;have hA5:Below w.heap.size w (w2.alloc (.cells #[.string r.path,.int .i64 r.num,.int .i64 r.chg,.int .i64 r.act,.int .i64 r.ty.base,.bool r.ty.k,.bool r.ty.l,.bool r.ty.x,.int .u64 r.sum,.int .i64 r.size,.string r.frm,.int .i64 r.fnum] 66)):=z0r Hb0.out (zcf HB2.out _);have hsu:zec (some r)=r:=rfl;go_upto_region 2 with fail;clear hsu HAT;generalize w2.alloc (.cells #[.string r.path,.int .i64 r.num,.int .i64 r.chg,.int .i64 r.act,.int .i64 r.ty.base,.bool r.ty.k,.bool r.ty.l,.bool r.ty.x,.int .u64 r.sum,.int .i64 r.size,.string r.frm,.int .i64 r.fnum] 66)=V3 at hY hA5 ⊢;generalize w2.heap.size=g6 at hY ⊢;have HY:=hd_ hY;have HA5:=hd_ hA5;obtain⟨b0,b1,b2,b3,b4,b5,b6,b7,b8,b9,b10,b11⟩:=z7z hY;have HGO:=hd_ (fun X=>zhw r X);clear hY hA5;refine wp_region_noPanic ?_;first
   | go_region_law (go_simp;go_at_call 96;refine (HGO.out _).mono ?_;rintro e w5 ⟨rfl,hX5⟩;have hS5:Below V3.heap.size V3 w5:=(Below.refl _ _).drew.trans hX5;obtain⟨k0,k1,k2,k3,k4,k5,k6,k7,k8,k9,k10,k11⟩:=z7z (HY.out.below hS5 HY.out.lt))
   | fail
  all_goals
   refine NoPanic.normal ?_;go_wp2_with fail;go_ret2;exact⟨by rw[HN.out,HRO.out];cases z2v r.act <;> rfl,z0r HA5.out hS5⟩
def zkk (g:ByteArray→Option Value)(k:ByteArray):Value:=(g k).getD (.slice none 0 0)
def zkl (l:List Nat):List Value:=l.map fun(i:Nat)=>.int .i64 i
theorem zkm (l:List Nat)(i:Nat):zkl (l++[i])=zkl l++[.int .i64 i]:=by unfold zkl;rw[List.map_append];rfl
theorem zkn {w:World}{B:Nat}{e:TypeId}{size n:Nat}{v:Value}{xs:List Value}(h:w.ownsRow B e size v n xs){x:Nat}(hx:v.ownBlock=some x){es:Array MapEntry}{c:Nat}(hm:w.heap[x]? = some (.map es c)):False:=by
 rcases h.2 with⟨rfl,_⟩ | ⟨g,cap,cur,rfl,_,hg,_⟩
 ·cases hx
 ·injection hx with hx
  subst hx;have hx':w.heap[g]? = some (.map es c):=hm;rw[hg] at hx';cases hx'
theorem zko {κ α:Type}[BEq κ]{kv:κ→Value}{enc:α→Value}{w:World}{b:Nat}{f:κ→Option α}(h:z2f kv enc w b f):∃ es c,w.heap[b]? = some (.map es c):=by
 obtain⟨m,⟨es,c,hm,_⟩,_⟩:=h;exact⟨es,c,hm⟩
structure ComG (w:World)(B U b:Nat)(f:ByteArray→List Nat)(g:ByteArray→Option Value):Prop where
 map:z2f Value.string id w b g
 row:∀ k,w.ownsRow B 3 1 (zkk g k) (f k).length (zkl (f k))
 apart:∀ k k' x,k≠k'→(zkk g k).ownBlock=some x→(zkk g k').ownBlock≠some x
 up:∀ k x,(zkk g k).ownBlock=some x→x<U
 bu:b<U
def zkp (w:World)(B U b:Nat)(f:ByteArray→List Nat):Prop:=∃ g,ComG w B U b f g
theorem zkp.new (w:World)(B:Nat):zkp (w.alloc (.map #[] 0)) B (w.heap.size+1) w.heap.size (fun _=>[]):=
 ⟨fun _=>none,z2f.new Value.string id w,fun _=>World.ownsRow_nil _ _ _ _,(fun _ _ _ _ h=>by cases h),(fun _ _ h=>by cases h),Nat.lt_succ_self _⟩
theorem zkp.keep {w w':World}{B U b:Nat}{f:ByteArray→List Nat}(h:zkp w B U b f)(hk:∀ x,x<U→(B≤x∨x=b)→w'.heap[x]? = w.heap[x]?):zkp w' B U b f:=by
 obtain⟨g,h1,h2,h3,h4,h5⟩:=h;refine⟨g,h1.keep (hk b h5 (.inr rfl)),fun k=>?_,h3,h4,h5⟩;have hr:=h2 k;refine⟨hr.1,?_⟩;rcases hr.2 with e | ⟨g1,cap,cur,e1,e2,e3,e4⟩
 ·exact .inl e
 ·exact .inr ⟨g1,cap,cur,e1,e2,(hk g1 (h4 k g1 (by rw[e1];rfl)) (.inl e2)).trans e3,e4⟩
theorem zkp.upTo {w:World}{B U U' b:Nat}{f:ByteArray→List Nat}(h:zkp w B U b f)(hU:U≤U'):zkp w B U' b f:=by
 obtain⟨g,h1,h2,h3,h4,h5⟩:=h;exact⟨g,h1,h2,h3,fun k x e=>Nat.lt_of_lt_of_le (h4 k x e) hU,Nat.lt_of_lt_of_le h5 hU⟩
theorem zkp.look {w:World}{B U b:Nat}{f:ByteArray→List Nat}(h:zkp w B U b f)(k:ByteArray):
  ∃ A c,(∀ W:World,W.heap[b]? = w.heap[b]?→(Instr.lookup 123 (.map (some b)) (.string k) false).run prog W=.ok (.slice A (f k).length c) W)∧w.ownsRow B 3 1 (.slice A (f k).length c) (f k).length (zkl (f k)) ∧
   (∀ x,(Value.slice A (f k).length c).ownBlock=some x→x<U∧B≤x) ∧
   ∀(W:World) (A':Option Addr) (c' n i U':Nat),w.grownBy W (Value.slice A (f k).length c).ownBlock→n=(f k).length+1→W.ownsRow B 3 1 (.slice A' n c') n (zkl (f k)++[.int .i64 i])→U≤w.heap.size→U≤U'→W.heap.size≤U' →
    ((Value.slice A' n c').ownBlock=(Value.slice A (f k).length c).ownBlock∨∃ x,(Value.slice A' n c').ownBlock=some x∧w.heap.size≤x) →
    ∃ W2,(Instr.mapUpdate 123 (.map (some b)) (.string k) (.slice A' n c')).run prog W=.ok () W2∧zkp W2 B U' b (fun x=>if x=k then f k++[i] else f x)∧W.grownBy W2 (some b)∧W2.heap.size=W.heap.size:=by
 obtain⟨g,h1,h2,h3,h4,h5⟩:=h;have hv:z2h id (.slice none 0 0) false (g k)=zkk g k:=by unfold z2h zkk;cases g k <;> rfl
 have hlk:∀ W:World,W.heap[b]? = w.heap[b]?→(Instr.lookup 123 (.map (some b)) (.string k) false).run prog W=.ok (zkk g k) W:=fun W hW=>by
  rw[← hv];exact z2f.lookup (w:=W) (h1.keep hW) (z2d underlying9) underlying123 (z:=.slice none 0 0) (by rfl) k false
 obtain⟨A,c,hsl⟩:=z0o (h2 k);have hrow:=h2 k;have hup:=h4 k;rw[hsl] at hrow hup;simp only[hsl] at hlk
 refine⟨A,c,hlk,hrow,fun x hx=>⟨hup x hx,(hrow.lt x hx).1⟩,?_⟩;intro W A' c' n i U' hg hn hown hUs hU hW hloc;subst hn;have hbs:b<w.heap.size:=h1.lt;have hbrow:∀ k x,(zkk g k).ownBlock=some x→x≠b:=by
  intro k x hx e;subst e;obtain⟨es,cc,hm⟩:=zko h1;exact zkn (h2 k) hx hm
 have h1W:z2f Value.string id W b g:=h1.grown hg (by
  intro e;have:=hbrow k b (by rw[hsl];exact e.symm)
  exact this rfl)
 obtain⟨W2,hu,hM,hgr,hsz⟩:=z2f.update (w:=W) h1W (z2d underlying9) underlying123 k (.slice A' ((f k).length+1) c');refine⟨W2,hu,⟨upd g k (.slice A' ((f k).length+1) c'),hM,?_,?_,?_,Nat.lt_of_lt_of_le h5 hU⟩,hgr,hsz⟩
 ·have hrk:zkk (upd g k (.slice A' ((f k).length+1) c')) k=.slice A' ((f k).length+1) c':=by unfold zkk upd;rw[if_pos rfl];rfl
  intro k';by_cases e:k'=k
  ·subst e;rw[hrk,if_pos rfl];have hl:(f k'++[i]).length=(f k').length+1:=by simp
   rw[hl,zkm];refine hown.kept hgr ?_;obtain⟨es,cc,hm⟩:=zko h1W;by_cases hb:(Value.slice A' ((f k').length+1) c').ownBlock=some b
   ·exact absurd hm (fun hm=>zkn hown hb hm)
   ·exact .inr hb
  ·have hrk':zkk (upd g k (.slice A' ((f k).length+1) c')) k'=zkk g k':=by unfold zkk upd;rw[if_neg e]
   rw[hrk',if_neg e];refine ((h2 k').kept hg ?_).kept hgr ?_
   ·cases hb:(zkk g k').ownBlock with
    | none=>exact .inl rfl
    | some x =>
     refine .inr fun e2=>?_;exact h3 k' k x e hb (by rw[hsl];exact e2.symm)
   ·cases hb:(zkk g k').ownBlock with
    | none=>exact .inl rfl
    | some x=>exact .inr fun e2=>hbrow k' x hb (by injection e2)
 ·intro k1 k2 x hne hx hx2;by_cases e1:k1=k
  ·subst e1;have e2:¬ k2=k1:=fun e=>hne e.symm;have hrk:zkk (upd g k1 (.slice A' ((f k1).length+1) c')) k1=.slice A' ((f k1).length+1) c':=by unfold zkk upd;rw[if_pos rfl];rfl
   have hrk':zkk (upd g k1 (.slice A' ((f k1).length+1) c')) k2=zkk g k2:=by unfold zkk upd;rw[if_neg e2]
   rw[hrk] at hx;rw[hrk'] at hx2;rcases hloc with h | ⟨y,h,hy⟩
   ·rw[h,← hsl] at hx;exact h3 k1 k2 x hne hx hx2
   ·rw[h] at hx;injection hx with hx
    have:=((h2 k2).lt x hx2).2;omega
  ·have hrk':zkk (upd g k (.slice A' ((f k).length+1) c')) k1=zkk g k1:=by unfold zkk upd;rw[if_neg e1]
   rw[hrk'] at hx;by_cases e2:k2=k
   ·subst e2;have hrk:zkk (upd g k2 (.slice A' ((f k2).length+1) c')) k2=.slice A' ((f k2).length+1) c':=by unfold zkk upd;rw[if_pos rfl];rfl
    rw[hrk] at hx2;rcases hloc with h | ⟨y,h,hy⟩
    ·rw[h,← hsl] at hx2;exact h3 k1 k2 x hne hx hx2
    ·rw[h] at hx2;injection hx2 with hx2
     have:=((h2 k1).lt x hx).2;omega
   ·have hrk2:zkk (upd g k (.slice A' ((f k).length+1) c')) k2=zkk g k2:=by unfold zkk upd;rw[if_neg e2]
    rw[hrk2] at hx2;exact h3 k1 k2 x hne hx hx2
 ·intro k' x hx;by_cases e:k'=k
  ·subst e;have hrk:zkk (upd g k' (.slice A' ((f k').length+1) c')) k'=.slice A' ((f k').length+1) c':=by unfold zkk upd;rw[if_pos rfl];rfl
   rw[hrk] at hx;have:=(hown.lt x hx).2;omega
  ·have hrk':zkk (upd g k (.slice A' ((f k).length+1) c')) k'=zkk g k':=by unfold zkk upd;rw[if_neg e]
   rw[hrk'] at hx;exact Nat.lt_of_lt_of_le (h4 k' x hx) hU
def zkq (pl:List Syn)(k:Nat)(l:ByteArray):List Nat:=(List.range k).filter fun i=>decide (∃ x,pl[i]? = some x∧x.dst=l∧x.dst≠z2l)
def putF (f:ByteArray→List Nat)(l:ByteArray)(i:Nat):ByteArray→List Nat:=fun x=>if x=l then f l++[i] else f x
theorem comF_no {pl:List Syn}{k:Nat}(hk:k<pl.length)(h:pl[k].dst=z2l):zkq pl (k+1)=zkq pl k:=by
 funext l
 unfold zkq;rw[List.range_succ,List.filter_append];rw[show ([k].filter fun i=>decide (∃ x,pl[i]? = some x∧x.dst=l∧x.dst≠z2l))=[] from ?_,List.append_nil];rw[List.filter_cons,if_neg,List.filter_nil];rw[decide_eq_true_iff];rintro⟨x,hx,-,hn⟩;rw[List.getElem?_eq_getElem hk] at hx;injection hx with hx
 subst hx;exact hn h
theorem zkr {pl:List Syn}{k:Nat}(hk:k<pl.length)(h:pl[k].dst≠z2l):zkq pl (k+1)=putF (zkq pl k) pl[k].dst k:=by
 funext l
 unfold putF;have hu:zkq pl (k+1) l=zkq pl k l++([k].filter fun i=>decide (∃ x,pl[i]? = some x∧x.dst=l∧x.dst≠z2l)):=by
  unfold zkq;rw[List.range_succ,List.filter_append]
 rw[hu,List.filter_cons,List.filter_nil];by_cases e:l=pl[k].dst
 ·subst e;rw[if_pos rfl,if_pos];rw[decide_eq_true_iff];exact⟨pl[k],List.getElem?_eq_getElem hk,rfl,h⟩
 ·rw[if_neg e,if_neg,List.append_nil];rw[decide_eq_true_iff];rintro⟨x,hx,h1,-⟩;rw[List.getElem?_eq_getElem hk] at hx;injection hx with hx
  subst hx;exact e h1.symm
theorem comF_lt {pl:List Syn}{k:Nat}{l:ByteArray}{i:Nat}(h:i∈zkq pl k l):i<pl.length∧∃ x,pl[i]? = some x∧x.dst=l∧x.dst≠z2l:=by
 unfold zkq at h;obtain⟨h1,h2⟩:=List.mem_filter.1 h;rw[decide_eq_true_iff] at h2;obtain⟨x,hx,h3⟩:=h2;exact⟨(List.getElem?_eq_some_iff.1 hx).1,x,hx,h3⟩
theorem zks (pl:List Syn)(k:Nat)(l:ByteArray):(zkq pl k l).length≤k:=by
 unfold zkq;exact Nat.le_trans (List.length_filter_le _ _) (by rw[List.length_range];exact Nat.le_refl _)
theorem zkt {pl:List Syn}{x:Syn}(hx:x∈pl)(hd:x.dst≠z2l):∃ i,i∈zkq pl pl.length x.dst∧pl[i]? = some x:=by
 obtain⟨i,hi,rfl⟩:=List.getElem_of_mem hx;refine⟨i,?_,List.getElem?_eq_getElem hi⟩;unfold zkq;refine List.mem_filter.2 ⟨List.mem_range.2 hi,?_⟩;rw[decide_eq_true_iff];exact⟨pl[i],List.getElem?_eq_getElem hi,rfl,hd⟩
def stF (pl:List Syn):Nat→ByteArray→Option Nat
 | 0=>fun _=>none
 | k+1=>match pl[k]? with
  | some x=>upd (stF pl k) x.path k
  | none=>stF pl k
theorem zku {pl:List Syn}{k:Nat}(hk:k<pl.length):stF pl (k+1)=upd (stF pl k) pl[k].path k:=by
 show (match pl[k]? with | some x=>upd (stF pl k) x.path k | none=>stF pl k)=_
 rw[List.getElem?_eq_getElem hk]
theorem zkv {pl:List Syn}{k i:Nat}{p:ByteArray}(hk:k≤pl.length)(h:stF pl k p=some i):i<k∧∃ hi:i<pl.length,pl[i].path=p:=by
 induction k with
 | zero=>cases h
 | succ k ih =>
  rw[zku hk] at h;unfold upd at h;split at h
  ·rename_i e
   injection h with h
   subst h;exact⟨by omega,hk,e.symm⟩
  ·obtain⟨h1,h2⟩:=ih (by omega) h
   exact⟨by omega,h2⟩
theorem zkw {pl:List Syn}{k:Nat}{p:ByteArray}(hk:k≤pl.length)(h:stF pl k p=none):∀ i (hi:i<pl.length),i<k→pl[i].path≠p:=by
 induction k with
 | zero=>intro i _ h;omega
 | succ k ih =>
  intro i hi hik e;rw[zku hk] at h;unfold upd at h;split at h
  ·cases h
  ·rename_i e2
   by_cases e3:i=k
   ·subst e3;exact e2 e.symm
   ·exact ih (by omega) h i hi (by omega) e
theorem stF_get {pl:List Syn}(hs:z6c pl)(p:ByteArray):z6e pl p=(stF pl pl.length p).bind fun i=>pl[i]?:=by
 cases h:stF pl pl.length p with
 | none =>
  refine z62.2 fun a ha e=>?_;obtain⟨i,hi,rfl⟩:=List.getElem_of_mem ha;exact zkw (Nat.le_refl _) h i hi hi e
 | some i =>
  obtain⟨-,hi,e⟩:=zkv (Nat.le_refl _) h;show _=pl[i]?
  rw[List.getElem?_eq_getElem hi,← e];exact z65 hs (List.getElem_mem hi)
theorem zkx {pl:List Syn}(hs:z6c pl)(b:ByteArray→Bool){k:Nat}(hk:k<pl.length)(hk2:k<(zeg b pl).length):(zeg b pl).set k (zjw 5 (zeg b pl)[k])=zeg (setB b pl[k].path) pl:=by
 refine List.ext_getElem (by unfold zeg;simp) fun j h1 h2=>?_
 have hj:j<pl.length:=by unfold zeg at h2;simpa using h2
 have e1:∀(b:ByteArray→Bool) (h:j<(zeg b pl).length),(zeg b pl)[j]=zef b pl[j]:=fun b h=>by
  show (pl.map (zef b))[j]'(by simpa [zeg] using h)=_
  rw[List.getElem_map]
 rw[List.getElem_set,e1 (setB b pl[k].path) h2];by_cases e:k=j
 ·subst e;have hb:setB b pl[k].path pl[k].path=true:=zkc;have e2:=e1 b hk2;have e3:zef (setB b pl[k].path) pl[k]=zjw 5 pl[k]:=by unfold zef;rw[if_pos hb];rfl
  have e4:∀ x:Syn,zjw 5 (zef b x)=zjw 5 x:=fun x=>by unfold zef;split <;> rfl
  rw[if_pos rfl,e3];exact (congrArg (zjw 5) e2).trans (e4 _)
 ·rw[if_neg e,e1];have hp:pl[j].path≠pl[k].path:=fun ep=>by
   have hh:=List.pairwise_iff_getElem.1 hs;rcases Nat.lt_or_gt_of_ne e with h | h
   ·exact z5z (hh k j hk hj h) ep.symm
   ·exact z5z (hh j k hj hk h) ep
  unfold zef;have:setB b pl[k].path pl[j].path=b pl[j].path:=by unfold setB;rw[decide_eq_false hp,Bool.false_or]
  rw[this]
end Go.Proofs.YtegeboijhifmcaaGreatDoor
