/- A part of the proof. -/
import Derived.Test.YtegeboijhifmcaaGreatDoorMgs19
import Derived.Test.YtegeboijhifmcaaGreatDoorMgs18
set_option linter.unusedVariables false
set_option linter.unusedSimpArgs false
set_option maxHeartbeats 8000000
set_option maxRecDepth 100000
namespace Go.Proofs.YtegeboijhifmcaaGreatDoor
open Go.Proofs.Tryz
open Go.RowKit
open Go.Sort (grow)
section
variable {u0 u1 u2 u3 u4 u5 u6 u7 u8 u9 gn gt gu gx gy gz gA gC gD gE gF gG gH gI gJ gK gL gM gN gO gP gQ gR gT gV gW gX gY gZ i6 i7 i8 ia ib ic ie ig ii ij ik il im io ip iq ir iu iv iw ix iy iz iA iB iC iD iE iF iG iH iI iJ iK iL iM iN iO iP iQ iR iS iT iU iV iW iX iY iZ : Value}
def zdi (w:World)(v:Value)(es:List zd8):Prop:=Row w 5 v es.length (es.flatMap zd8.cells)∧∀ x∈es,zd9 w x
theorem zdi.below {w w':World}{v:Value}{es:List zd8}(h:zdi w v es)(hb:Below w.heap.size w w'):zdi w' v es:=⟨Row.below h.1 hb,fun x hx=>(h.2 x hx).below hb⟩
def EntAt (w:World)(a:Addr)(x:zd8):Prop:=w.cell? a=some x.l.v∧w.cell? ⟨a.block,a.off+1,none⟩=some (.bool x.l.1.rest)∧w.cell? ⟨a.block,a.off+2,none⟩=some x.r.v∧w.cell? ⟨a.block,a.off+3,none⟩=some (.bool x.r.1.rest)∧w.cell? ⟨a.block,a.off+4,none⟩=some x.hv
theorem zdi.at_ {w:World}{A:Option Addr}{c:Nat}{es:List zd8}(h:zdi w (.slice A es.length c) es){k:Nat}(hk:k<es.length):
  ∃ ad,A=some ad∧ad.block<w.heap.size∧EntAt w (ad.add (k * 5)) es[k]:=by
 obtain⟨ad,e,hb,hc⟩:=z49 (f:=zd8.cells) (n:=5) (fun _=>rfl) h.1 hk;exact⟨ad,e,hb,hc 0 _ rfl,hc 1 _ rfl,hc 2 _ rfl,hc 3 _ rfl,hc 4 _ rfl⟩
theorem zd9.holes {w:World}{x:zd8}(h:zd9 w x):∃ H c,x.hv=.slice H x.hs.length c:=by
 obtain⟨H,c,e,-⟩:=h.h.1;exact⟨H,c,e⟩
structure EntOk (x:zd8):Prop where
 rule:za8 x.l.1 x.r.1=0
 reg:zd3 x.l.1 x.hs=0
 nar:∀ q∈x.hs,∃ m,zcw x.l.1 x.r.1 q.1 m
structure zdj (es:List zd8):Prop where
 len:es.length≤32
 ok:∀ x∈es,EntOk x
 apart:∀(i j:Nat) (hi:i<es.length) (hj:j<i),zai es[i].l.1 (es[j]'(Nat.lt_trans hj hi)).l.1=none∧zai es[i].r.1 (es[j]'(Nat.lt_trans hj hi)).r.1=none
def zdk (wr:World)(g:Nat)(es:List zd8)(i:Nat):Prop:=∃ cs:List Value,Blk wr g 115 cs∧cs.length=es.length * 3∧∀(j:Nat) (hj:j<es.length),j<i→∃ A m c,cs[j * 3]? = some es[j].r.v∧cs[j * 3+1]? = some (.bool es[j].r.1.rest)∧cs[j * 3+2]? = some (.slice A m c)
theorem zdk.under {w w':World}{g:Nat}{es:List zd8}{i:Nat}(h:zdk w g es i)(hb:Below w.heap.size w w'):zdk w' g es i:=by
 obtain⟨cs,h1,h2,h3⟩:=h;exact⟨cs,h1.below hb h1.lt,h2,h3⟩
theorem zdk.put {w:World}{g:Nat}{es:List zd8}{i:Nat}(h:zdk w g es i)(hi:i<es.length)(A:Option Addr)(m c:Nat):
  zdk (((w.setCell ⟨g,i * 3,none⟩ es[i].r.v).setCell ⟨g,i * 3+1,none⟩ (.bool es[i].r.1.rest)).setCell ⟨g,i * 3+2,none⟩ (.slice A m c)) g es (i+1):=by
 obtain⟨cs,h1,h2,h3⟩:=h;refine⟨_,((h1.set_ (i * 3) _).set_ (i * 3+1) _).set_ (i * 3+2) _,by simp [h2],fun j hj hji=>?_⟩
 by_cases e:j=i
 ·subst e;refine⟨A,m,c,?_,?_,?_⟩
  ·rw[List.getElem?_set_ne (by omega),List.getElem?_set_ne (by omega),List.getElem?_set_self (by omega)]
  ·rw[List.getElem?_set_ne (by omega),List.getElem?_set_self (by simp;omega)]
  ·rw[List.getElem?_set_self (by simp;omega)]
 ·obtain⟨A',m',c',e1,e2,e3⟩:=h3 j hj (by omega)
  refine⟨A',m',c',?_,?_,?_⟩
  ·rw[List.getElem?_set_ne (by omega),List.getElem?_set_ne (by omega),List.getElem?_set_ne (by omega)];exact e1
  ·rw[List.getElem?_set_ne (by omega),List.getElem?_set_ne (by omega),List.getElem?_set_ne (by omega)];exact e2
  ·rw[List.getElem?_set_ne (by omega),List.getElem?_set_ne (by omega),List.getElem?_set_ne (by omega)];exact e3
theorem zdk.facts {w:World}{g:Nat}{es:List zd8}{i:Nat}(h:zdk w g es i){j:Nat}(hj:j<es.length):
  ((∃ u,w.cell? ⟨g,j * 3,none⟩=some u)∧(∃ u,w.cell? ⟨g,j * 3+1,none⟩=some u)∧∃ u,w.cell? ⟨g,j * 3+2,none⟩=some u)∧w.frozen? ⟨g,j * 3,none⟩=false∧w.frozen? ⟨g,j * 3+1,none⟩=false∧w.frozen? ⟨g,j * 3+2,none⟩=false:=by
 obtain⟨cs,h1,h2,h3⟩:=h;refine⟨⟨?_,?_,?_⟩,h1.frozen _,h1.frozen _,h1.frozen _⟩
 ·exact⟨cs[j * 3]'(by omega),by rw[h1.cell,List.getElem?_eq_getElem]⟩
 ·exact⟨cs[j * 3+1]'(by omega),by rw[h1.cell,List.getElem?_eq_getElem]⟩
 ·exact⟨cs[j * 3+2]'(by omega),by rw[h1.cell,List.getElem?_eq_getElem]⟩
theorem zdk.at_ {w:World}{g:Nat}{es:List zd8}{i:Nat}(h:zdk w g es i){j:Nat}(hj:j<es.length)(hi:j<i):
  ∃ A m c,w.cell? ⟨g,j * 3,none⟩=some es[j].r.v∧w.cell? ⟨g,j * 3+1,none⟩=some (.bool es[j].r.1.rest)∧w.cell? ⟨g,j * 3+2,none⟩=some (.slice A m c):=by
 obtain⟨cs,h1,h2,h3⟩:=h;obtain⟨A,m,c,e1,e2,e3⟩:=h3 j hj hi;exact⟨A,m,c,by rw[h1.cell,e1],by rw[h1.cell,e2],by rw[h1.cell,e3]⟩
theorem run_mkR (n:Nat)(hn:n≤1000)(w:World):(Instr.makeSlice 127 (.int .i64 n) (.int .i64 n)).run prog w=.ok (.slice (some ⟨w.heap.size,0,none⟩) n n) (w.alloc (.cells (mkL [.slice none 0 0,.bool false,.slice none 0 0] n).toArray 115)):=
 run_mk (z:=.agg #[.slice none 0 0,.bool false,.slice none 0 0]) (bytes:=56) (size:=3) underlying127 (by kernel_rfl) (by decide) (zs:=[.slice none 0 0,.bool false,.slice none 0 0]) rfl rfl n .i64 .i64 (by omega) (by omega) w
theorem zdl {P:Program}{t e:TypeId}{size n c k:Nat}{A:Option Addr}(ht:P.underlying t=some (.slice e))(hs:∀ w,(sizeOf e).run P w=.ok size w)(hk:k≤c)(X:World):
  (Instr.sliceAt t (.slice A n c) none (some (.int .i64 k)) none).run P X=.ok (.slice A k c) X:=by
 have he:P.elem t=e:=by simp [Program.elem,ht]
 have ht':P.underlying t=some (.slice (P.elem t)):=by rw[he];exact ht
 rw[run_sliceAt_slice X t _ _ _ _ ht',run_slice_h X t A n c ht' _ _ (by omega) (by omega),he,hs]
 have h0:A.map (fun a=>a.add (0 * size))=A:=by
  cases A with
  | none=>rfl
  | some a=>simp [Addr.add]
 simp only[Result.andThen,sliced]
 rw[h0];simp
theorem zdm (w:World):(sizeOf 100).run prog w=.ok 5 w:=by kernel_rfl
structure R24 (W9:World)(g g12 g14 n k j:Nat)(pl pr ql qr:Pat)(Al Ar Bl Br H Hy A1 A2:Option Addr)(cl cr dl dr nh hc ny hcy m1 c1 m2 c2:Nat):Prop where
 b12:Blk W9 g12 100 [.slice Al pl.parts.length cl,.bool pl.rest,.slice Ar pr.parts.length cr,.bool pr.rest,.slice H nh hc]
 b14:Blk W9 g14 100 [.slice Bl ql.parts.length dl,.bool ql.rest,.slice Br qr.parts.length dr,.bool qr.rest,.slice Hy ny hcy]
 xl:za9 W9 (.slice Al pl.parts.length cl) pl
 xr:za9 W9 (.slice Ar pr.parts.length cr) pr
 yl:za9 W9 (.slice Bl ql.parts.length dl) ql
 yr:za9 W9 (.slice Br qr.parts.length dr) qr
 r0:W9.cell? ⟨g,k * 3,none⟩=some (.slice Ar pr.parts.length cr)
 r1:W9.cell? ⟨g,k * 3+1,none⟩=some (.bool pr.rest)
 r2:W9.cell? ⟨g,k * 3+2,none⟩=some (.slice A1 m1 c1)
 t0:W9.cell? ⟨g,j * 3,none⟩=some (.slice Br qr.parts.length dr)
 t1:W9.cell? ⟨g,j * 3+1,none⟩=some (.bool qr.rest)
 t2:W9.cell? ⟨g,j * 3+2,none⟩=some (.slice A2 m2 c2)
 ml:zai pl ql=none
 mr:zai pr qr=none
 hk:(k:Int)<(n:Int)
 hj:(j:Int)<(n:Int)
theorem mcR24 (ops:Array Oper)(hops:Tryz.f40.body.bind (zci 24)=some ops)(Q:Exit→Act→World→Prop)(W9:World)(g g12 g14 n k j:Nat)(pl pr ql qr:Pat)(Al Ar Bl Br H Hy A1 A2:Option Addr)(cl cr dl dr nh hc ny hcy m1 c1 m2 c2:Nat)
  (h:R24 W9 g g12 g14 n k j pl pr ql qr Al Ar Bl Br H Hy A1 A2 cl cr dl dr nh hc ny hcy m1 c1 m2 c2)
  (hQ:∀(fD fE fF fG fH fI fJ fK fL fM fN fO fP fQ fR:Value) (w':World),Below W9.heap.size W9 w'→Q .normal ⟨#[u0,u1,u2,u3,u4,u5,.slice (some ⟨g,0,none⟩) n n,u7,u8,u9,gn,.int .i64 k,.pointer (some ⟨g12,0,none⟩),.int .i64 j,.pointer (some ⟨g14,0,none⟩),gz,gA,gC,gD,gE,gF,gG,gH,gI,gJ,gK,gL,gM,gN,gO,gP,gQ,gR,gT,gV,gW,gX,gY,gZ,i6,i7,i8,ia,ib,ic,ie,ig,ii,ij,ik,il,im,io,ip,iq,ir,iu,iv,iw,ix,iy,iz,iA,iB,iC,iD,iE,iF,iG,fD,fE,fF,fG,fH,fI,fJ,fK,fL,fM,fN,fO,fP,fQ,fR,.bool false,iX,iY,iZ],[]⟩ w'):
  (Code.region 24 ops true).wp prog Q ⟨#[u0,u1,u2,u3,u4,u5,.slice (some ⟨g,0,none⟩) n n,u7,u8,u9,gn,.int .i64 k,.pointer (some ⟨g12,0,none⟩),.int .i64 j,.pointer (some ⟨g14,0,none⟩),gz,gA,gC,gD,gE,gF,gG,gH,gI,gJ,gK,gL,gM,gN,gO,gP,gQ,gR,gT,gV,gW,gX,gY,gZ,i6,i7,i8,ia,ib,ic,ie,ig,ii,ij,ik,il,im,io,ip,iq,ir,iu,iv,iw,ix,iy,iz,iA,iB,iC,iD,iE,iF,iG,iH,iI,iJ,iK,iL,iM,iN,iO,iP,iQ,iR,iS,iT,iU,iV,iW,iX,iY,iZ],[]⟩ W9:=by
 simp only[Tryz.f40,Option.bind_some,zci] at hops
 simp at hops
 subst hops;have hzi:=h.hk;have hzj:=h.hj;have cX:∀ d os,Calls prog 54 #[.agg #[.slice Al pl.parts.length cl,.bool pl.rest,.slice Ar pr.parts.length cr,.bool pr.rest,.slice H nh hc]] (grow (redrawn W9 d) os) fun e w''=>e=.returned (.agg #[.slice Al pl.parts.length cl,.bool pl.rest,.slice H nh hc])∧∃ p:Regrown,w''=grow (redrawn W9 p.d) p.os:=fun d os=>Calls.regrown_of (by have hh:=zdb Al H pl.parts.length cl nh hc pl.rest pr.rest (.slice Ar pr.parts.length cr) (grow (redrawn W9 d) os);exact hh)
 have cY:∀ d os,Calls prog 54 #[.agg #[.slice Bl ql.parts.length dl,.bool ql.rest,.slice Br qr.parts.length dr,.bool qr.rest,.slice Hy ny hcy]] (grow (redrawn W9 d) os) fun e w''=>e=.returned (.agg #[.slice Bl ql.parts.length dl,.bool ql.rest,.slice Hy ny hcy])∧∃ p:Regrown,w''=grow (redrawn W9 p.d) p.os:=fun d os=>Calls.regrown_of (by have hh:=zdb Bl Hy ql.parts.length dl ny hcy ql.rest qr.rest (.slice Br qr.parts.length dr) (grow (redrawn W9 d) os);exact hh)
 have cL:∀ d os,Calls prog 66 #[.agg #[.slice Al pl.parts.length cl,.bool pl.rest,.slice H nh hc],.agg #[.slice Bl ql.parts.length dl,.bool ql.rest,.slice Hy ny hcy]] (grow (redrawn W9 d) os) fun e w''=>e=.returned (.bool false)∧∃ p:Regrown,w''=grow (redrawn W9 p.d) p.os:=fun d os=>Calls.regrown_of (by have hh:=zdh pl ql Al Bl cl dl (.slice H nh hc) (.slice Hy ny hcy) (grow (redrawn W9 d) os) (h.xl.below (below_regrown W9 d os)) (h.yl.below (below_regrown W9 d os)) h.ml;exact hh)
 have cR:∀ d os,Calls prog 66 #[.agg #[.slice Ar pr.parts.length cr,.bool pr.rest,.slice A1 m1 c1],.agg #[.slice Br qr.parts.length dr,.bool qr.rest,.slice A2 m2 c2]] (grow (redrawn W9 d) os) fun e w''=>e=.returned (.bool false)∧∃ p:Regrown,w''=grow (redrawn W9 p.d) p.os:=fun d os=>Calls.regrown_of (by have hh:=zdh pr qr Ar Br cr dr (.slice A1 m1 c1) (.slice A2 m2 c2) (grow (redrawn W9 d) os) (h.xr.below (below_regrown W9 d os)) (h.yr.below (below_regrown W9 d os)) h.mr;exact hh)
 have x0:=cell_regrown (show W9.cell? ⟨g12,0,none⟩=some (.slice Al pl.parts.length cl) from h.b12.cell 0);have x1:=cell_regrown (show W9.cell? ⟨g12,1,none⟩=some (.bool pl.rest) from h.b12.cell 1);have x2:=cell_regrown (show W9.cell? ⟨g12,2,none⟩=some (.slice Ar pr.parts.length cr) from h.b12.cell 2);have x3:=cell_regrown (show W9.cell? ⟨g12,3,none⟩=some (.bool pr.rest) from h.b12.cell 3);have x4:=cell_regrown (show W9.cell? ⟨g12,4,none⟩=some (.slice H nh hc) from h.b12.cell 4);have y0:=cell_regrown (show W9.cell? ⟨g14,0,none⟩=some (.slice Bl ql.parts.length dl) from h.b14.cell 0);have y1:=cell_regrown (show W9.cell? ⟨g14,1,none⟩=some (.bool ql.rest) from h.b14.cell 1);have y2:=cell_regrown (show W9.cell? ⟨g14,2,none⟩=some (.slice Br qr.parts.length dr) from h.b14.cell 2);have y3:=cell_regrown (show W9.cell? ⟨g14,3,none⟩=some (.bool qr.rest) from h.b14.cell 3);have y4:=cell_regrown (show W9.cell? ⟨g14,4,none⟩=some (.slice Hy ny hcy) from h.b14.cell 4);have u0':=cell_regrown h.r0;have u1':=cell_regrown h.r1;have u2':=cell_regrown h.r2;have v0':=cell_regrown h.t0;have v1':=cell_regrown h.t1;have v2':=cell_regrown h.t2;have HQ:=hd_ hQ;clear h hQ;refine wp_region_quiet_below (by kernel_rfl) (by kernel_rfl) ?_
 iterate 2 (first | go_big_quiet_step (exact cX _ _) | quiet_step (exact cX _ _))
 iterate 2 (first | go_big_quiet_step (exact cY _ _) | quiet_step (exact cY _ _))
 iterate 2 (first | go_big_quiet_step (exact cL _ _) | quiet_step (exact cL _ _))
 repeat (first | go_big_quiet_step (exact cR _ _) | quiet_step (exact cR _ _))
 refine wpQuiet_nil ?_;intro _ hw9;obtain⟨⟨dq,osq⟩,hw9⟩:=hw9;subst hw9;exact HQ.out _ _ _ _ _ _ _ _ _ _ _ _ _ _ _ _ (below_regrown W9 dq osq)
theorem zdn (es:List zd8)(v:Value)(w:World)(hE:zdi w v es)(hM:zdj es):
  Calls prog 40 #[v] w fun e w'=>e=.returned (.tuple #[.int .i64 0,.int .i64 0])∧Below w.heap.size w w':=by
 obtain⟨A,c,rfl,-⟩:=id hE.1;have hl32:=hM.len;have HE:=hd_ hE;have HM:=hd_ hM;clear hE hM;go_enter func40,ntmps40;go_wp2_with fail;go_loopw [17] (fun i wr=>∃ k:Nat,i=.int .i64 k∧k≤es.length∧Hid (Below w.heap.size w wr)) (fun i _=>es.length - (intOf i).toNat)
 case atStart=>exact⟨0,rfl,Nat.zero_le _,hd_ (Below.refl _ _)⟩
 case round =>
  obtain⟨k,rfl,hk,HI⟩:=hrel;by_cases hlt:k<es.length
  ·have HEX:=hd_ (HE.out.below HI.out);obtain⟨ad,rfl,hab,s0,s1,s2,s3,s4⟩:=HEX.out.at_ hlt;have HXI:=hd_ (HEX.out.2 es[k] (List.getElem_mem hlt));have HXO:=hd_ (HM.out.ok es[k] (List.getElem_mem hlt));generalize es[k]=x at s0 s1 s2 s3 s4 HXI HXO;obtain⟨H,hc,hhv⟩:=HXI.out.holes;obtain⟨⟨pl,Al,cl⟩,⟨pr,Ar,cr⟩,hv,hs⟩:=x;change hv=.slice H hs.length hc at hhv;subst hhv;change wr.cell? _=some (.slice Al pl.parts.length cl) at s0;change wr.cell? _=some (.bool pl.rest) at s1;change wr.cell? _=some (.slice Ar pr.parts.length cr) at s2;change wr.cell? _=some (.bool pr.rest) at s3;change wr.cell? _=some (.slice H hs.length hc) at s4;have hX:Below wr.heap.size wr (wr.alloc (.cells #[.slice Al pl.parts.length cl,.bool pl.rest,.slice Ar pr.parts.length cr,.bool pr.rest,.slice H hs.length hc] 100)):=(Below.refl _ _).alloc (Nat.le_refl _) _;have hXI:=HXI.out.below hX;have HC:=hd_ (zdc pl pr hs Al Ar H cl cr hc (wr.alloc (.cells #[.slice Al pl.parts.length cl,.bool pl.rest,.slice Ar pr.parts.length cr,.bool pr.rest,.slice H hs.length hc] 100)) hXI.l hXI.r hXI.h (by have:=hXI.n;exact Nat.le_trans this (by decide)) HXO.out.rule HXO.out.reg)
   have HX:=hd_ (z0r HI.out hX);have HLT:=hd_ hlt;clear hab hX hXI;go_wp2_with fail;refine HC.out.mono ?_;rintro e w4 ⟨rfl,hb⟩;have HB4:=hd_ (z0r HX.out hb);clear hb s0 s1 s2 s3 s4;go_wp2_with fail;go_roundw
   case rel=>exact⟨k+1,by go_num,by omega,HB4⟩
   case measure=>simp [intOf];omega
  ·have hke:k=es.length:=by omega
   subst hke;have q32:decide ((32:Int)<(es.length:Int))=false:=by simp;omega
   have q32':decide (32<es.length)=false:=by simp;omega
   have hmk:=run_mkR es.length (by omega)
   have hge:¬((es.length:Int)<(es.length:Int)):=by omega
   go_upto_region 10 with fail;have HR0:Hid (zdk (wr.alloc (.cells (mkL [.slice none 0 0,.bool false,.slice none 0 0] es.length).toArray 115)) wr.heap.size es 0):=hd_ ⟨_,z0l wr _ _,by rw[z0m];rfl,fun j _ h=>by omega⟩
   have HB1:=hd_ (HI.out.alloc HI.out.size (.cells (mkL [.slice none 0 0,.bool false,.slice none 0 0] es.length).toArray 115));have hgw:w.heap.size≤wr.heap.size:=HI.out.size;generalize wr.alloc (.cells (mkL [.slice none 0 0,.bool false,.slice none 0 0] es.length).toArray 115)=W2 at HR0 HB1 ⊢;generalize wr.heap.size=g at HR0 hgw ⊢;clear hmk HI hk hlt;have HGW:=hd_ hgw;clear hgw;go_wp2_with fail;go_loopw [35] (fun i wr=>∃ k:Nat,i=.int .i64 k∧k≤es.length∧Hid (Below w.heap.size w wr∧zdk wr g es k)) (fun i _=>es.length - (intOf i).toNat)
   case atStart=>exact⟨0,rfl,Nat.zero_le _,hd_ ⟨HB1.out,HR0.out⟩⟩
   case round =>
    obtain⟨k,rfl,hk,HI⟩:=hrel;by_cases hlt:k<es.length
    ·have HEX:=hd_ (HE.out.below HI.out.1);obtain⟨ad,rfl,hab,s0,s1,s2,s3,s4⟩:=HEX.out.at_ hlt;have HXI:=hd_ (HEX.out.2 es[k] (List.getElem_mem hlt));have HXO:=hd_ (HM.out.ok es[k] (List.getElem_mem hlt));have HPUT:=hd_ (fun X (hX:zdk X g es k) A m c=>hX.put hlt A m c);have HFA:=hd_ (fun X (hX:zdk X g es k)=>hX.facts hlt);generalize es[k]=x at s0 s1 s2 s3 s4 HXI HXO HPUT;obtain⟨H,hc,hhv⟩:=HXI.out.holes;obtain⟨⟨pl,Al,cl⟩,⟨pr,Ar,cr⟩,hv,hs⟩:=x;change hv=.slice H hs.length hc at hhv;subst hhv;change wr.cell? _=some (.slice Al pl.parts.length cl) at s0;change wr.cell? _=some (.bool pl.rest) at s1;change wr.cell? _=some (.slice Ar pr.parts.length cr) at s2;change wr.cell? _=some (.bool pr.rest) at s3;change wr.cell? _=some (.slice H hs.length hc) at s4;have hX:Below wr.heap.size wr (wr.alloc (.cells #[.slice Al pl.parts.length cl,.bool pl.rest,.slice Ar pr.parts.length cr,.bool pr.rest,.slice H hs.length hc] 100)):=(Below.refl _ _).alloc (Nat.le_refl _) _;have hXI:=HXI.out.below hX;have HC:=hd_ (zdg pl pr hs Al Ar H cl cr hc (wr.alloc (.cells #[.slice Al pl.parts.length cl,.bool pl.rest,.slice Ar pr.parts.length cr,.bool pr.rest,.slice H hs.length hc] 100)) hXI.l hXI.r hXI.h hXI.n HXO.out.nar);have HX:=hd_ hX;have HLT:=hd_ hlt;clear hab hX hXI;go_wp2_with fail;refine HC.out.mono ?_;rintro e w4 ⟨hb,A9,n9,c9,rfl⟩;have hb4:=z0r HX.out hb;have hb5:Below wr.heap.size wr (w4.alloc (.cells #[.slice Ar pr.parts.length cr,.bool pr.rest,.slice A9 n9 c9] 115)):=hb4.alloc hb4.size _;have HRG:=hd_ (HI.out.2.under hb5);have HBW:=hd_ (z0r HI.out.1 hb5);have HN:Hid (Blk (w4.alloc (.cells #[.slice Ar pr.parts.length cr,.bool pr.rest,.slice A9 n9 c9] 115)) w4.heap.size 115 [.slice Ar pr.parts.length cr,.bool pr.rest,.slice A9 n9 c9]):=hd_ (z0l w4 _ _);clear hb hb4 hb5 s0 s1 s2 s3 s4;go_upto_region 14 with fail;generalize w4.alloc (.cells #[.slice Ar pr.parts.length cr,.bool pr.rest,.slice A9 n9 c9] 115)=W5 at HRG HBW HN ⊢;generalize w4.heap.size=g9 at HN ⊢;obtain⟨z0,z1,z2⟩:=(⟨HN.out.cell 0,HN.out.cell 1,HN.out.cell 2⟩:W5.cell? ⟨g9,0,none⟩=some (.slice Ar pr.parts.length cr)∧W5.cell? ⟨g9,1,none⟩=some (.bool pr.rest)∧W5.cell? ⟨g9,2,none⟩=some (.slice A9 n9 c9))
     obtain⟨⟨⟨u0,d0⟩,⟨u1,d1⟩,⟨u2,d2⟩⟩,f0,f1,f2⟩:=HFA.out W5 HRG.out;have hzl:(k:Int)<(es.length:Int):=by omega
     go_wp2_with fail;go_roundw
     case rel=>exact⟨k+1,by go_num,by omega,hd_ ⟨((HBW.out.setCell (p:=⟨g,k * 3,none⟩) HGW.out _).setCell (p:=⟨g,k * 3+1,none⟩) HGW.out _).setCell (p:=⟨g,k * 3+2,none⟩) HGW.out _,HPUT.out W5 HRG.out A9 n9 c9⟩⟩
     case measure=>simp [intOf];omega
    ·have hke:k=es.length:=by omega
     subst hke;have HB3:=hd_ HI.out.1;have HR3:=hd_ HI.out.2;have hge:¬((es.length:Int)<(es.length:Int)):=by omega
     clear HI;have hcc:es.length≤c:=by obtain⟨A',c',e,h1,-⟩:=id HE.out.1;injection e with e1 e2 e3;omega
     go_wp2_with fail;go_loopw [55] (fun i wr=>∃ k:Nat,i=.int .i64 k∧k≤es.length∧Hid (Below w.heap.size w wr∧zdk wr g es es.length)) (fun i _=>es.length - (intOf i).toNat)
     case atStart=>exact⟨0,rfl,Nat.zero_le _,hd_ ⟨HB3.out,HR3.out⟩⟩
     case round =>
      obtain⟨k,rfl,hk,HI⟩:=hrel;by_cases hlt:k<es.length
      ·have HEX:=hd_ (HE.out.below HI.out.1);obtain⟨ad,rfl,hab,s0,s1,s2,s3,s4⟩:=HEX.out.at_ hlt;have HXI:=hd_ (HEX.out.2 es[k] (List.getElem_mem hlt));have HRX:=hd_ (fun X (hX:zdk X g es es.length)=>hX.at_ hlt hlt);have HAP:=hd_ (fun j (hj:j<k)=>HM.out.apart k j hlt hj);generalize es[k]=x at s0 s1 s2 s3 s4 HXI HRX HAP;obtain⟨H,hc,hhv⟩:=HXI.out.holes;obtain⟨⟨pl,Al,cl⟩,⟨pr,Ar,cr⟩,hv,hs⟩:=x;change hv=.slice H hs.length hc at hhv;subst hhv;change wr.cell? _=some (.slice Al pl.parts.length cl) at s0;change wr.cell? _=some (.bool pl.rest) at s1;change wr.cell? _=some (.slice Ar pr.parts.length cr) at s2;change wr.cell? _=some (.bool pr.rest) at s3;change wr.cell? _=some (.slice H hs.length hc) at s4;have hX:Below wr.heap.size wr (wr.alloc (.cells #[.slice Al pl.parts.length cl,.bool pl.rest,.slice Ar pr.parts.length cr,.bool pr.rest,.slice H hs.length hc] 100)):=(Below.refl _ _).alloc (Nat.le_refl _) _;have HBX:=hd_ (z0r HI.out.1 hX);have HGX:=hd_ (HI.out.2.under hX);have HN:Hid (Blk (wr.alloc (.cells #[.slice Al pl.parts.length cl,.bool pl.rest,.slice Ar pr.parts.length cr,.bool pr.rest,.slice H hs.length hc] 100)) wr.heap.size 100 [.slice Al pl.parts.length cl,.bool pl.rest,.slice Ar pr.parts.length cr,.bool pr.rest,.slice H hs.length hc]):=hd_ (z0l wr _ _);have HXP:=hd_ (HXI.out.below hX);have hpre:=fun X=>zdl (P:=prog) (t:=27) (n:=es.length) (c:=c) (k:=k) (A:=some ad) underlying27 zdm (by omega) X
       have HLT:=hd_ hlt;clear hab hX;go_upto_region 21 with fail;generalize wr.alloc (.cells #[.slice Al pl.parts.length cl,.bool pl.rest,.slice Ar pr.parts.length cr,.bool pr.rest,.slice H hs.length hc] 100)=W7 at HBX HGX HN HXP ⊢;generalize wr.heap.size=g12 at HN ⊢;clear s0 s1 s2 s3 s4 HI HEX;go_wp2_with fail;go_loopw [64] (fun i wr=>∃ j:Nat,i=.int .i64 j∧j≤k∧Hid (Below W7.heap.size W7 wr)) (fun i _=>k - (intOf i).toNat)
       case atStart=>exact⟨0,rfl,Nat.zero_le _,hd_ (Below.refl _ _)⟩
       case round =>
        obtain⟨j,rfl,hj,HJ⟩:=hrel;by_cases hlj:j<k
        ·have hje:j<es.length:=by omega
         have HEX:=hd_ (HE.out.below (z0r HBX.out HJ.out));obtain⟨ad2,had,hab,s0,s1,s2,s3,s4⟩:=HEX.out.at_ hje;injection had with had
         subst had;have HYI:=hd_ (HEX.out.2 es[j] (List.getElem_mem hje));have HRY:=hd_ (fun X (hX:zdk X g es es.length)=>hX.at_ hje hje);have HAJ:=hd_ (HAP.out j hlj);generalize es[j]=y at s0 s1 s2 s3 s4 HYI HRY HAJ;obtain⟨Hy,hcy,hhv⟩:=HYI.out.holes;obtain⟨⟨ql,Bl,dl⟩,⟨qr,Br,dr⟩,hv,hsy⟩:=y;change hv=.slice Hy hsy.length hcy at hhv;subst hhv;change wr.cell? _=some (.slice Bl ql.parts.length dl) at s0;change wr.cell? _=some (.bool ql.rest) at s1;change wr.cell? _=some (.slice Br qr.parts.length dr) at s2;change wr.cell? _=some (.bool qr.rest) at s3;change wr.cell? _=some (.slice Hy hsy.length hcy) at s4;have hX:Below wr.heap.size wr (wr.alloc (.cells #[.slice Bl ql.parts.length dl,.bool ql.rest,.slice Br qr.parts.length dr,.bool qr.rest,.slice Hy hsy.length hcy] 100)):=(Below.refl _ _).alloc (Nat.le_refl _) _;have hB9:=z0r HJ.out hX;have HB9:=hd_ hB9;have HYP:=hd_ (HYI.out.below hX);have hN14:Blk (wr.alloc (.cells #[.slice Bl ql.parts.length dl,.bool ql.rest,.slice Br qr.parts.length dr,.bool qr.rest,.slice Hy hsy.length hcy] 100)) wr.heap.size 100 [.slice Bl ql.parts.length dl,.bool ql.rest,.slice Br qr.parts.length dr,.bool qr.rest,.slice Hy hsy.length hcy]:=z0l wr _ _;have hN12:=HN.out.below hB9 HN.out.lt;have hRG:=HGX.out.under hB9;have hXP:=HXP.out.below hB9;have HLJ:=hd_ hlj;have hzi:(k:Int)<(es.length:Int):=by omega
         have hzj:(j:Int)<(es.length:Int):=by omega
         clear hab hX;go_upto_region 24 with fail;clear s0 s1 s2 s3 s4;generalize wr.alloc (.cells #[.slice Bl ql.parts.length dl,.bool ql.rest,.slice Br qr.parts.length dr,.bool qr.rest,.slice Hy hsy.length hcy] 100)=W9 at hB9 HB9 HYP hN14 hN12 hRG hXP ⊢;generalize wr.heap.size=g14 at hN14 ⊢;obtain⟨A1,m1,c1,r0,r1,r2⟩:=HRX.out W9 hRG;obtain⟨A2,m2,c2,t0,t1,t2⟩:=HRY.out W9 hRG;refine mcR24 _ (by kernel_rfl) _ W9 g g12 g14 es.length k j pl pr ql qr Al Ar Bl Br H Hy A1 A2 cl cr dl dr hs.length hc hsy.length hcy m1 c1 m2 c2 ⟨hN12,hN14,hXP.l,hXP.r,HYP.out.l,HYP.out.r,r0,r1,r2,t0,t1,t2,HAJ.out.1,HAJ.out.2,hzi,hzj⟩ ?_
         intro fD fE fF fG fH fI fJ fK fL fM fN fO fP fQ fR w' hb';have HBN:=hd_ (HB9.out.trans (hb'.mono HB9.out.size));clear hb' hB9 hN14 hN12 hRG hXP r0 r1 r2 t0 t1 t2 hzi hzj;go_wp2_with fail;go_roundw
         case rel=>exact⟨j+1,by go_num,by omega,HBN⟩
         case measure=>simp [intOf];omega
        ·have hke:j=k:=by omega
         subst hke;have HBE:=hd_ (z0r HBX.out HJ.out);have HGE:=hd_ (HGX.out.under HJ.out);have hge:¬((j:Int)<(j:Int)):=by omega
         clear hpre;go_wp2_with fail;go_roundw
         case rel=>exact⟨j+1,by go_num,by omega,hd_ ⟨HBE.out,HGE.out⟩⟩
         case measure=>simp [intOf];omega
      ·have hke:k=es.length:=by omega
       subst hke;have HBE:=hd_ HI.out.1;have hge:¬((es.length:Int)<(es.length:Int)):=by omega
       go_wp2_with fail;go_ret2;exact⟨rfl,HBE.out⟩
end
end Go.Proofs.YtegeboijhifmcaaGreatDoor
