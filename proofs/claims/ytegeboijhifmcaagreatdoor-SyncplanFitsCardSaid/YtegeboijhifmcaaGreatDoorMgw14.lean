/- The paths that occur, the client paths that the mappings give, what is wanted. No program in sight. -/
import Derived.Test.YtegeboijhifmcaaGreatDoorMgw11
import Derived.Test.YtegeboijhifmcaaGreatDoorMgw3
import Derived.Test.YtegeboijhifmcaaGreatDoorMgw9
import Derived.Test.YtegeboijhifmcaaGreatDoorMzAlF
import Derived.Test.YtegeboijhifmcaaGreatDoorMgw6
namespace Go.Proofs.YtegeboijhifmcaaGreatDoor
set_option linter.unusedVariables false
set_option linter.unusedSimpArgs false
set_option maxHeartbeats 4000000
set_option maxRecDepth 100000
open Go.RowKit
def zff:List ByteArray:=[⟨#[47,47,100,47,97]⟩,⟨#[47,47,100,47,97,47,97]⟩,⟨#[47,47,100,47,98]⟩,⟨#[47,47,100,47,120,47,97]⟩,⟨#[47,47,100,47,120,47,98]⟩,⟨#[47,47,101,47,97]⟩]
theorem zfg:z5x (fun q:ByteArray=>q) zff:=by
 unfold z5x zff;simp only[List.pairwise_cons,List.mem_cons,List.not_mem_nil,or_false,forall_eq_or_imp,forall_eq]
 refine⟨⟨?_,?_,?_,?_,?_⟩,⟨?_,?_,?_,?_⟩,⟨?_,?_,?_⟩,⟨?_,?_⟩,?_,?_⟩ <;> first | decide +kernel | (intro a ha;cases ha) | exact⟨fun a h=>(by cases h),List.Pairwise.nil⟩
theorem zfh:∀ p∈zff,z3q p=true:=by decide +kernel
structure zfi (f:ByteArray→Option ByteArray):Prop where
 path:∀ p∈zff,∀ l,f p=some l→z3q l=true
 inj:∀ p∈zff,∀ q∈zff,∀ l,f p=some l→f q=some l→p=q
def zfj (D:List Rev)(f:ByteArray→Option ByteArray)(m:Int)(p:ByteArray):Option Hav:=
 match z30 D p (fun v:Rev=>decide (v.chg≤m)) with
 | none=>none
 | some r=>if z2v r.act then (f p).map (fun l=>⟨p,r.num,l⟩) else none
def zfk (D:List Rev)(f:ByteArray→Option ByteArray)(m:Int):List Hav:=zff.filterMap (zfj D f m)
theorem zfl {D:List Rev}{p:ByteArray}{t:Rev→Bool}{r:Rev}(h:z30 D p t=some r):r∈D∧r.path=p∧t r=true:=by
 unfold z30 at h;suffices H:∀(l:List Rev) (o:Option Rev),(∀ x,o=some x→x∈D∧x.path=p∧t x=true)→(∀ x∈l,x∈D)→∀ r,l.foldl (fun o r=>if r.path=p∧t r=true then (match o with | none=>some r | some b=>if b.num<r.num then some r else some b) else o) o=some r→r∈D∧r.path=p∧t r=true from
  H D none (fun x e=>by cases e) (fun x hx=>hx) r h
 intro l;induction l with
 | nil=>intro o ho _ r hr;exact ho r hr
 | cons a l ih =>
  intro o ho hl r hr;rw[List.foldl_cons] at hr;refine ih _ (fun x hx=>?_) (fun x hx=>hl x (List.mem_cons_of_mem _ hx)) r hr;split at hx
  ·rename_i hc
   have ha:a∈D∧a.path=p∧t a=true:=⟨hl a (List.mem_cons_self ..),hc.1,hc.2⟩;cases o with
   | none=>rw[← Option.some.inj hx];exact ha
   | some b =>
    simp only at hx
    split at hx
    ·rw[← Option.some.inj hx];exact ha
    ·rw[← Option.some.inj hx];exact ho b rfl
  ·exact ho x hx
theorem zfm {D:List Rev}{f:ByteArray→Option ByteArray}{m:Int}{p:ByteArray}{h:Hav}(e:zfj D f m p=some h):h.path=p∧f p=some h.loc∧∃ r∈D,r.path=p∧r.num=h.num∧z30 D p (fun v:Rev=>decide (v.chg≤m))=some r∧z2v r.act=true:=by
 unfold zfj at e;cases hg:z30 D p (fun v:Rev=>decide (v.chg≤m)) with
 | none=>rw[hg] at e;cases e
 | some r =>
  rw[hg] at e;simp only at e
  cases hl:z2v r.act with
  | false=>rw[hl] at e;cases e
  | true =>
   rw[hl,if_pos rfl,Option.map_eq_some_iff] at e;obtain⟨l,e1,e2⟩:=e;subst e2;obtain⟨m1,m2,-⟩:=zfl hg;exact⟨rfl,e1,r,m1,m2,rfl,rfl,hl⟩
theorem zfn {D:List Rev}{f:ByteArray→Option ByteArray}{m:Int}(hn:∀ r∈D,1≤r.num)(hf:zfi f):zf0 (zfk D f m):=by
 have hm:∀ x∈zfk D f m,∃ p∈zff,zfj D f m p=some x:=fun x hx=>List.mem_filterMap.1 hx;refine⟨?_,fun x hx=>?_,fun x hx y hy e=>?_⟩
 ·unfold zfk;have:∀ qs:List ByteArray,z5x (fun q:ByteArray=>q) qs→z6b (qs.filterMap (zfj D f m)):=by
   intro qs;induction qs with
   | nil=>intro _;exact List.Pairwise.nil
   | cons q qs ih =>
    intro hq;rw[List.filterMap_cons];split
    ·exact ih hq.tail
    ·rename_i x hx
     refine List.pairwise_cons.2 ⟨fun b hb=>?_,ih hq.tail⟩;obtain⟨p,hp,e⟩:=List.mem_filterMap.1 hb;rw[(zfm hx).1,(zfm e).1];exact hq.head p hp
  exact this _ zfg
 ·obtain⟨p,hp,e⟩:=hm x hx;obtain⟨e1,e2,r,r1,r2,r3,-⟩:=zfm e;unfold Hav.okB;rw[e1,zfh p hp,hf.path p hp _ e2];have:=hn r r1;simp
  omega
 ·obtain⟨p,hp,e1⟩:=hm x hx;obtain⟨q,hq,e2⟩:=hm y hy;obtain⟨a1,a2,-⟩:=zfm e1;obtain⟨b1,b2,-⟩:=zfm e2;rw[a1,b1];rw[e] at a2;exact hf.inj p hp q hq _ a2 b2
theorem zfo {D:List Rev}{f:ByteArray→Option ByteArray}{m:Int}:∀ x∈zfk D f m,x.path∈zff:=fun x hx=>by
 obtain⟨p,hp,e⟩:=List.mem_filterMap.1 hx;rw[(zfm e).1];exact hp
theorem zfp {D:List Rev}{f:ByteArray→Option ByteArray}{m:Int}:(zfk D f m).length≤6:=by
 unfold zfk;exact Nat.le_trans (List.length_filterMap_le ..) (by decide)
def c_ (t:List UInt8):ByteArray:=⟨([47,47,99,47]++t).toArray⟩
def w_ (t:List UInt8):ByteArray:=⟨([47,47,119,47]++t).toArray⟩
def fwdT:Nat→List (Option ByteArray)
 | 0=>[some (c_ [97]),some (c_ [97,47,97]),some (c_ [98]),some (c_ [120,47,97]),some (c_ [120,47,98]),none]
 | 1=>[some (c_ [97]),some (c_ [97,47,97]),some (c_ [98]),none,none,none]
 | 2=>[none,none,none,some (c_ [97]),some (c_ [98]),some (w_ [97])]
 | 3=>[some (c_ [98]),none,some (c_ [97]),some (c_ [120,47,97]),some (c_ [120,47,98]),none]
 | 4=>[some (c_ [97]),none,some (c_ [98]),none,none,some (c_ [101])]
 | 5=>[none,some (w_ [97,47,122]),none,some (w_ [120,47,122]),none,some (c_ [97])]
 | 6=>[some (c_ [97]),some (c_ [97,47,97]),some (c_ [98]),some (c_ [120,47,97]),some (c_ [120,47,98]),some (w_ [97])]
 | _=>[none,none,none,none,none,none]
def zfq (k:Nat)(p:ByteArray):Option ByteArray:=((zff.zip (fwdT k)).find? (fun x=>decide (x.1=p))).bind (·.2)
theorem zfr (k:Nat):zfi (zfq k):=by
 have h:∀ k<8,(∀ p∈zff,∀ l,zfq k p=some l→z3q l=true)∧∀ p∈zff,∀ q∈zff,(zfq k p).isSome=true→zfq k p=zfq k q→p=q:=by
  have a:∀ k<8,∀ p∈zff,((zfq k p).map z3q).getD true=true:=by decide +kernel
  have b:∀ k<8,∀ p∈zff,∀ q∈zff,(zfq k p).isSome=true→zfq k p=zfq k q→p=q:=by decide +kernel
  exact fun k hk=>⟨fun p hp l e=>by have:=a k hk p hp;rw[e] at this;exact this,b k hk⟩
 by_cases hk:k<8
 ·exact⟨(h k hk).1,fun p hp q hq l e1 e2=>(h k hk).2 p hp q hq (by rw[e1];rfl) (e1.trans e2.symm)⟩
 ·have e:fwdT k=fwdT 7:=by
   match k,hk with
   | k+8,_=>rfl
   | 0,hk=>exact absurd (by decide) hk
   | 1,hk=>exact absurd (by decide) hk
   | 2,hk=>exact absurd (by decide) hk
   | 3,hk=>exact absurd (by decide) hk
   | 4,hk=>exact absurd (by decide) hk
   | 5,hk=>exact absurd (by decide) hk
   | 6,hk=>exact absurd (by decide) hk
   | 7,hk=>exact absurd (by decide) hk
  have e2:zfq k=zfq 7:=by funext p;unfold zfq;rw[e]
  rw[e2];exact⟨(h 7 (by decide)).1,fun p hp q hq l e1 e2=>(h 7 (by decide)).2 p hp q hq (by rw[e1];rfl) (e1.trans e2.symm)⟩
open Go.Sort (grow)
theorem zio (w:World):(sizeOf 44).run Tryz.prog w=.ok 3 w:=by kernel_rfl
theorem z4b.head {w:World}{A:Option Addr}{c n:Nat}{x:Hav}{r:List Hav}(h:z4b w (.slice A n c) (x :: r)):
  n=r.length+1∧∃ ad,A=some ad∧ad.block<w.heap.size∧z4c w ad x:=by
 have hn:n=(x :: r).length:=by obtain⟨A',c',e,-⟩:=id h;injection e
 subst hn;obtain⟨ad,e,hb,hc⟩:=z4b.at_ (k:=0) h (by simp)
 refine⟨rfl,ad,e,hb,?_⟩;have:ad.add (0 * 3)=ad:=by unfold Addr.add;simp
 rw[this] at hc;exact hc
theorem z4b.tail {w:World}{A:Option Addr}{c n:Nat}{x:Hav}{r:List Hav}(h:z4b w (.slice A n c) (x :: r)):
  ∃ A' c',(∀ X,(Instr.sliceAt 28 (.slice A n c) (some (.int .i64 1)) none none).run Tryz.prog X=.ok (.slice A' r.length c') X)∧z4b w (.slice A' r.length c') r:=by
 have hn:n=(x :: r).length:=by obtain⟨A',c',e,-⟩:=id h;injection e
 subst hn;obtain⟨A',c',h1,h2⟩:=zbz (P:=Tryz.prog) (w:=w) Tryz.underlying28 zio h (by simp)
 exact⟨A',c',h1,h2⟩
theorem ziq (x y:Hav)(W:World):(binOp .eql 44 (.agg #[.string x.path,.int .i64 x.num,.string x.loc]) (.agg #[.string y.path,.int .i64 y.num,.string y.loc])).run Tryz.prog W=.ok (.bool (decide (x=y))) W:=by
 obtain⟨a,b,c⟩:=x;obtain⟨d,e,f⟩:=y;rw[run_eql_struct,run_equalIn_agg W 9999 44 _ _ (by kernel_rfl) (by kernel_rfl)]
 simp [go_sem,Op.eqFields,ze7]
 by_cases h1:a=d <;> by_cases h2:b=e <;> by_cases h3:c=f <;> simp [h1,h2,h3]
theorem z6t.set (w:World)(g i:Nat)(u:Value):z6t [g] w (w.setCell ⟨g,i,none⟩ u):=z6t.grown (z6u w g i u) (by simp)
theorem z6t.drew {S:List Nat}{w w':World}(h:z6t S w w'):z6t S w w'.drew:=h.trans (z6t.below (Below.refl _ _).drew)
theorem zir (ops:Array Oper)(hops:Tryz.f34.body.bind (zci 12)=some ops)(Q:Exit→Act→World→Prop)(V1:World)(ad:Addr)(n c g7:Nat)(h:Hav)(v0 v1 v2 v3 v4:Value)(hh:z4c V1 ad h)(hB:Blk V1 g7 48 [v0,v1,v2,v3,v4])(hn:0<n)
  (u1 u2 u3 u4 u5 u6 u8 u9 gn gt gu gx gy gz gA gC gD gE gF gG gH gI gJ gK gL gM gN gO gP gQ gR gT gV gW gX gY gZ i6 i7 i8 ia ib ic ie ig ii ij ik il im io ip iq ir iu iv iw ix iy iz iA iB iC iD iE iF iG iH iI iJ iK iL iM iN iO iP iQ iR iS iT iU iV iW:Value)
  (hQ:∀(eY eZ fa fd fe ff fg fh fj fk:Value) (w':World),z6t [g7] V1 w'→Blk w' g7 48 [v0,.string h.path,v2,.string h.loc,v4]→Q .normal ⟨#[.slice (some ad) n c,u1,u2,u3,u4,u5,u6,.pointer (some ⟨g7,0,none⟩),u8,u9,gn,gt,gu,gx,gy,gz,gA,gC,gD,gE,gF,gG,gH,gI,gJ,gK,gL,gM,gN,gO,gP,gQ,gR,gT,gV,gW,gX,gY,gZ,i6,i7,i8,ia,ib,ic,ie,ig,eY,eZ,fa,fd,fe,ff,fg,fh,fj,fk,iv,iw,ix,iy,iz,iA,iB,iC,iD,iE,iF,iG,iH,iI,iJ,iK,iL,iM,iN,iO,iP,iQ,iR,iS,iT,iU,iV,iW],[]⟩ w'):
  (Code.region 12 ops true).wp Tryz.prog Q ⟨#[.slice (some ad) n c,u1,u2,u3,u4,u5,u6,.pointer (some ⟨g7,0,none⟩),u8,u9,gn,gt,gu,gx,gy,gz,gA,gC,gD,gE,gF,gG,gH,gI,gJ,gK,gL,gM,gN,gO,gP,gQ,gR,gT,gV,gW,gX,gY,gZ,i6,i7,i8,ia,ib,ic,ie,ig,ii,ij,ik,il,im,io,ip,iq,ir,iu,iv,iw,ix,iy,iz,iA,iB,iC,iD,iE,iF,iG,iH,iI,iJ,iK,iL,iM,iN,iO,iP,iQ,iR,iS,iT,iU,iV,iW],[]⟩ V1:=by
 simp only[Tryz.f34,Option.bind_some,zci] at hops
 simp at hops
 subst hops;obtain⟨x0,x1,x2⟩:=hh;have y1:V1.cell? ⟨g7,1,none⟩=some v1:=hB.cell 1;have y3:V1.cell? ⟨g7,3,none⟩=some v3:=hB.cell 3;have f1:V1.frozen? ⟨g7,1,none⟩=false:=hB.frozen 1;have f3:V1.frozen? ⟨g7,3,none⟩=false:=hB.frozen 3;have hz:(0:Int)<(n:Int):=by omega
 have HQ:=hd_ hQ;have HB:=hd_ hB;clear hQ hB;refine wp_region_noPanic ?_;go_region_law (fail)
 all_goals exact NoPanic.normal (HQ.out _ _ _ _ _ _ _ _ _ _ _ (((z6t.set V1 g7 1 (.string h.path)).trans (z6t.set _ g7 3 (.string h.loc))).drew) ((HB.out.set_ 1 (.string h.path)).set_ 3 (.string h.loc)))
theorem zis (ops:Array Oper)(hops:Tryz.f34.body.bind (zci 15)=some ops)(Q:Exit→Act→World→Prop)(V1:World)(ad:Addr)(n c g7:Nat)(h:Hav)(v0 v1 v2 v3 v4:Value)(hh:z4c V1 ad h)(hB:Blk V1 g7 48 [v0,v1,v2,v3,v4])(hn:0<n)(hne:ad.block≠g7)
  (u0 u2 u3 u4 u5 u6 u8 u9 gn gt gu gx gy gz gA gC gD gE gF gG gH gI gJ gK gL gM gN gO gP gQ gR gT gV gW gX gY gZ i6 i7 i8 ia ib ic ie ig ii ij ik il im io ip iq ir iu iv iw ix iy iz iA iB iC iD iE iF iG iH iI iJ iK iL iM iN iO iP iQ iR iS iT iU iV iW:Value)
  (hQ:∀(fu fv fw fx fy fA fB fC fD fE fF fG fH fI fJ:Value) (w':World),z6t [g7] V1 w'→Blk w' g7 48 [v0,.string h.path,.int .i64 h.num,v3,.string h.loc]→Q .normal ⟨#[u0,.slice (some ad) n c,u2,u3,u4,u5,u6,.pointer (some ⟨g7,0,none⟩),u8,u9,gn,gt,gu,gx,gy,gz,gA,gC,gD,gE,gF,gG,gH,gI,gJ,gK,gL,gM,gN,gO,gP,gQ,gR,gT,gV,gW,gX,gY,gZ,i6,i7,i8,ia,ib,ic,ie,ig,ii,ij,ik,il,im,io,ip,iq,ir,iu,iv,iw,ix,iy,fu,fv,fw,fx,fy,fA,fB,fC,fD,fE,fF,fG,fH,fI,fJ,iO,iP,iQ,iR,iS,iT,iU,iV,iW],[]⟩ w'):
  (Code.region 15 ops true).wp Tryz.prog Q ⟨#[u0,.slice (some ad) n c,u2,u3,u4,u5,u6,.pointer (some ⟨g7,0,none⟩),u8,u9,gn,gt,gu,gx,gy,gz,gA,gC,gD,gE,gF,gG,gH,gI,gJ,gK,gL,gM,gN,gO,gP,gQ,gR,gT,gV,gW,gX,gY,gZ,i6,i7,i8,ia,ib,ic,ie,ig,ii,ij,ik,il,im,io,ip,iq,ir,iu,iv,iw,ix,iy,iz,iA,iB,iC,iD,iE,iF,iG,iH,iI,iJ,iK,iL,iM,iN,iO,iP,iQ,iR,iS,iT,iU,iV,iW],[]⟩ V1:=by
 simp only[Tryz.f34,Option.bind_some,zci] at hops
 simp at hops
 subst hops;obtain⟨x0,x1,x2⟩:=hh;have y1:V1.cell? ⟨g7,1,none⟩=some v1:=hB.cell 1;have y2:V1.cell? ⟨g7,2,none⟩=some v2:=hB.cell 2;have y4:V1.cell? ⟨g7,4,none⟩=some v4:=hB.cell 4;have f1:V1.frozen? ⟨g7,1,none⟩=false:=hB.frozen 1;have f2:V1.frozen? ⟨g7,2,none⟩=false:=hB.frozen 2;have f4:V1.frozen? ⟨g7,4,none⟩=false:=hB.frozen 4;have hz:(0:Int)<(n:Int):=by omega
 have n1:¬(ad.block=g7):=hne;have n2:¬(g7=ad.block):=fun e=>hne e.symm;have HQ:=hd_ hQ;have HB:=hd_ hB;clear hQ hB;refine wp_region_noPanic ?_;go_region_law (fail)
 all_goals exact NoPanic.normal (HQ.out _ _ _ _ _ _ _ _ _ _ _ _ _ _ _ _ ((((z6t.set V1 g7 1 (.string h.path)).trans (z6t.set _ g7 2 (.int .i64 h.num))).trans (z6t.set _ g7 4 (.string h.loc))).drew) (((HB.out.set_ 1 (.string h.path)).set_ 2 (.int .i64 h.num)).set_ 4 (.string h.loc)))
end Go.Proofs.YtegeboijhifmcaaGreatDoor
