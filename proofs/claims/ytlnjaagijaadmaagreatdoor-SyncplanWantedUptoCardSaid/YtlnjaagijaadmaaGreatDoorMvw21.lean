/- A part. -/
import Derived.Test.YtlnjaagijaadmaaGreatDoorMvw20
import Derived.Test.YtlnjaagijaadmaaGreatDoorMvw17
set_option linter.unusedVariables false
set_option linter.unusedSimpArgs false
set_option maxHeartbeats 4000000
set_option maxRecDepth 100000
namespace Go.Proofs.YtlnjaagijaadmaaGreatDoor
open Go.RowKit
def okS (s:zA):Prop:=z8t s≠0
def okL (l:List UInt8):Prop:=l.all (fun c=>z0x c.toNat)=true
theorem zhy {s:zA}:z0z s=true↔(s.data.toList≠[]/\s.data.toList.head?≠some 46)/\okL s.data.toList:=by
 unfold z0z z0y okL;rw[Zw,Zw,Bool.not_eq_true',bne_iff_ne];constructor
 ·rintro⟨⟨h1,h2⟩,h3⟩;exact⟨⟨fun e=>(by rw[e] at h1;cases h1),h2⟩,h3⟩
 ·rintro⟨⟨h1,h2⟩,h3⟩;refine⟨⟨?_,h2⟩,h3⟩;cases e:s.data.toList with
  | nil=>exact absurd e h1
  | cons a l=>rfl
theorem zhz {s:zA}:z8s s=true↔okL (za5 s).data.toList:=by unfold z8s okL;rw[zh7]
theorem zi0 {s:zA}(h:z0z s=true):okS s:=by unfold okS z8t;rw[if_pos h];decide
theorem zi1 {s:zA}(h:z8r s=true)(ht:okL (za5 s).data.toList):okS s:=by
 unfold okS z8t;by_cases hc:z0z s=true
 ·rw[if_pos hc];decide
 ·rw[if_neg hc,if_pos h,if_pos (zhz.2 ht)];decide
theorem zi2 {s:zA}(h:okS s):(z8r s=true/\okL (za5 s).data.toList)\/(z8r s=false/\z0z s=true):=by
 unfold okS z8t at h;cases hs:z8r s with
 | true =>
  refine .inl ⟨rfl,?_⟩;rw[hs] at h;by_cases hc:z0z s=true
  ·have:=(zhy.1 hc).2;rw[zh8 hs] at this;unfold okL at this;rw[List.all_cons,Zw] at this;exact this.2
  ·rw[if_neg hc,if_pos rfl] at h;cases ht:z8s s with
   | true=>exact zhz.1 ht
   | false=>rw[ht] at h;exact absurd rfl h
 | false =>
  refine .inr ⟨rfl,?_⟩;rw[hs] at h;cases hc:z0z s with
  | true=>rfl
  | false=>rw[hc] at h;exact absurd rfl h
theorem zi3 {a b:List UInt8}:okL (a++b)↔okL a/\okL b:=by unfold okL;rw[List.all_append,Zw]
def zi4 (x y:zA):zA:=baL (Lib.trimSuffix y.data.toList (za5 x).data.toList)
theorem zi5 {l:List UInt8}:z8r (baL (42 :: l))=true/\(za5 (baL (42 :: l))).data.toList=l:=by
 refine⟨by unfold z8r;rw[z9b];rfl,by rw[zh7,z9b];rfl⟩
theorem zi6 {x y:zA}(hx:z8r x=true)(hy:okS y)(hw:zbl y x=true):okS (zi4 x y)/\y.data.toList=(zi4 x y).data.toList++(za5 x).data.toList:=by
 rcases zi2 hy with⟨h1,h2⟩ | ⟨h1,h2⟩
 ·have hs:∃ c,(za5 y).data.toList=c++(za5 x).data.toList:=by
   by_cases e:y=x
   ·exact⟨[],by rw[e];rfl⟩
   ·exact zh5.1 ((zhb hw e).2.1 h1)
  obtain⟨c,hc⟩:=hs;have hyl:y.data.toList=(42 :: c)++(za5 x).data.toList:=by rw[zh8 h1,hc];rfl
  have hst:zi4 x y=baL (42 :: c):=by unfold zi4;rw[hyl,zh6]
  rw[hst];refine⟨zi1 zi5.1 ?_,by rw[z9b];exact hyl⟩
  rw[zi5.2];rw[hc] at h2;exact (zi3.1 h2).1
 ·have hne:y≠x:=fun e=>by rw[e,hx] at h1;cases h1
  obtain⟨c,hc0,hc⟩:=(zhd hx).1 ((zhb hw hne).2.2 h1);have hst:zi4 x y=baL c:=by unfold zi4;rw[hc,zh6]
  rw[hst];refine⟨zi0 (zhy.2 ?_),by rw[z9b];exact hc⟩
  obtain⟨⟨-,b⟩,d⟩:=zhy.1 h2;rw[hc] at b d;rw[z9b];refine⟨⟨hc0,?_⟩,(zi3.1 d).1⟩;cases c with
  | nil=>exact absurd rfl hc0
  | cons a l=>exact b
theorem glue_ok {z x:zA}(hx:z8r x=true)(hox:okS x)(hz:okS z):okS (z++za5 x)/\zbl (z++za5 x) x=true:=by
 have hsx:okL (za5 x).data.toList:=by
  rcases zi2 hox with⟨-,h⟩ | ⟨h,-⟩
  ·exact h
  ·rw[hx] at h;cases h
 have hd:(z++za5 x).data.toList=z.data.toList++(za5 x).data.toList:=by simp
 rcases zi2 hz with⟨h1,h2⟩ | ⟨h1,h2⟩
 ·have hl:(z++za5 x).data.toList=42 :: ((za5 z).data.toList++(za5 x).data.toList):=by rw[hd,zh8 h1];rfl
  have hst:z8r (z++za5 x)=true:=by unfold z8r;rw[hl];rfl
  have hsu:(za5 (z++za5 x)).data.toList=(za5 z).data.toList++(za5 x).data.toList:=by rw[zh7,hl];rfl
  refine⟨zi1 hst (by rw[hsu];exact zi3.2 ⟨h2,hsx⟩),zhc hx (fun _=>zh5.2 ⟨_,hsu⟩) (fun h=>by rw[hst] at h;cases h)⟩
 ·obtain⟨⟨a,b⟩,c⟩:=zhy.1 h2;have hc:z0z (z++za5 x)=true:=by
   rw[zhy,hd];refine⟨⟨by simp [a],?_⟩,zi3.2 ⟨c,hsx⟩⟩
   cases e:z.data.toList with
   | nil=>exact absurd e a
   | cons u l=>rw[e] at b;exact b
  have hns:z8r (z++za5 x)=false:=by
   cases e:z8r (z++za5 x) with
   | false=>rfl
   | true =>
    have:=(zhy.1 hc).2;rw[zh8 e] at this;unfold okL at this;rw[List.all_cons,Zw] at this;exact absurd this.1 (by decide)
  exact⟨zi0 hc,zhc hx (fun h=>by rw[hns] at h;cases h) (fun _=>(zhd hx).2 ⟨z.data.toList,a,hd⟩)⟩
def zi7:List zA->List zA->List zA
 | [],_=>[]
 | x :: xs,ms=>if z8r x then zi4 x (ms.headD z2r) :: zi7 xs ms.tail else zi7 xs ms.tail
theorem zi8:∀(l ms:List zA),(zi7 l ms).length=(l.filter z8r).length
 | [],_=>rfl
 | x :: xs,ms=>by
  unfold zi7;cases h:z8r x with
  | true=>rw[List.filter_cons_of_pos h,Zz,<- zi8 xs ms.tail];rfl
  | false=>rw[List.filter_cons_of_neg (by rw[h];decide),<- zi8 xs ms.tail];rfl
theorem zi9:∀(l ms:List zA),l.length<=ms.length->(∀ x∈ms,okS x)->(∀(k:Nat) (h:k<l.length) (h2:k<ms.length),zbl ms[k] l[k]=true)->∀ z∈zi7 l ms,okS z
 | [],_,_,_,_,z,hz=>by cases hz
 | x :: xs,[],h,_,_,z,hz=>by simp at h
 | x :: xs,m :: ms,h,hm,hw,z,hz=>by
  unfold zi7 at hz;have ih:=zi9 xs ms (by simpa using h) (fun y hy=>hm y (Zh _ hy)) (fun k h1 h2=>hw (k+1) (by simpa using h1) (by simpa using h2))
  cases hs:z8r x with
  | true =>
   rw[hs] at hz;rcases Zn.1 hz with e | hz
   ·rw[e];exact (zi6 hs (hm m (Zj ..)) (hw 0 (by simp) (by simp))).1
   ·exact ih z hz
  | false=>rw[hs] at hz;exact ih z hz
theorem zia:∀(l cs:List zA),(zcl l cs).length=l.length
 | [],_=>rfl
 | x :: xs,cs=>by unfold zcl;split <;> simp [zia xs]
theorem zib:∀(l cs:List zA),(l.filter z8r).length<=cs.length->(∀ x∈l,okS x)->(∀ z∈cs,okS z)->∀(k:Nat) (h:k<(zcl l cs).length) (h2:k<l.length),okS (zcl l cs)[k]/\zbl (zcl l cs)[k] l[k]=true
 | [],_,_,_,_,k,h,h2=>by simp at h2
 | x :: xs,cs,hl,ho,hc,k,h,h2=>by
  cases hs:z8r x with
  | true =>
   rw[List.filter_cons_of_pos hs,Zz] at hl;have e:zcl (x :: xs) cs=(cs.headD z2r++za5 x) :: zcl xs cs.tail:=by show (if z8r x=true then _ else _)=_;rw[if_pos hs]
   cases cs with
   | nil=>simp at hl
   | cons z cs =>
    simp only[e]
    cases k with
    | zero=>exact glue_ok hs (ho x (Zj ..)) (hc z (Zj ..))
    | succ k=>exact zib xs cs (by simpa using hl) (fun y hy=>ho y (Zh _ hy)) (fun y hy=>hc y (Zh _ hy)) k (by rw[zia];simpa using h2) (by simpa using h2)
  | false =>
   rw[List.filter_cons_of_neg (by rw[hs];decide)] at hl
   have e:zcl (x :: xs) cs=x :: zcl xs cs:=by show (if z8r x=true then _ else _)=_;rw[if_neg (by rw[hs];decide)]
   simp only[e]
   cases k with
   | zero=>exact⟨ho x (Zj ..),zha _⟩
   | succ k=>exact zib xs cs hl (fun y hy=>ho y (Zh _ hy)) hc k (by rw[zia];simpa using h2) (by simpa using h2)
open Go.Sort (grow)
section
variable {u0 u1 u2 u3 u4 u5 u6 u7 u8 u9 gF gG gH gI gJ gK gL gM gN gO gP gQ gR gT gV gW gX gY gZ i6 i7 i8 ia ib ic ie ig ii ij ik il im io ip iq ir iu iv iw iy iz iA iB iC iD iE iF iG iH iI iJ iK iL iM iN iO iP iQ iR iS iT iU iV iW iX iY iZ j0 j1 j2 j9 jb jd je jf jg jh ji jj jk jl jm jn jo jp jq jr js jt ju bB bD bE bF bG bH bI bJ bK bL bM bN bO bP bQ bT bU bV bW bX bY bZ ca cj cn cx cy : zV}
theorem bkR23 (ops:Array Oper)(hops:Tryz.f74.body.bind (z0w 23)=some ops)(Q:Exit->Act->zW->Prop)(V1:zW)(g n c i g13:Nat)(x:Syn)(hp:zA)
  (hx:z6e V1 ⟨g,i * 5,none⟩ x) (hh:V1.cell? ⟨g13,0,none⟩=some (zS hp)) (hi:i<n)
  (hQ:∀(fY fZ gf gg gh gu gx gy gz gA gC gD gE aa:zV) (w':zW),zB V1 w'->Q .normal ⟨#[u0,zL (some ⟨g,0,none⟩) n c,u2,u3,u4,u5,u6,u7,u8,u9,gF,gG,gH,.pointer (some ⟨g13,0,none⟩),gJ,zI i,gL,gM,gN,gO,gP,gQ,gR,gT,gV,gW,gX,gY,gZ,i6,i7,i8,ia,ib,ic,ie,ig,ii,ij,ik,il,im,io,ip,iq,ir,iu,iv,iw,iy,iz,iA,iB,iC,iD,iE,iF,iG,iH,iI,iJ,iK,iL,iM,iN,iO,iP,iQ,iR,iS,iT,iU,iV,iW,iX,iY,iZ,j0,j1,j2,j9,jb,jd,je,jf,jg,jh,fY,fZ,gf,gg,gh,gu,gx,gy,gz,gA,gC,gD,gE,aa,.bool (decide (x.kt=hp) || z5d x.kind),bE,bF,bG,bH,bI,bJ,bK,bL,bM,bN,bO,bP,bQ,bT,bU,bV,bW,bX,bY,bZ,ca,cj,cn,cx,cy],[]⟩ w'):
  (Code.region 23 ops true).wp Tryz.prog Q ⟨#[u0,zL (some ⟨g,0,none⟩) n c,u2,u3,u4,u5,u6,u7,u8,u9,gF,gG,gH,.pointer (some ⟨g13,0,none⟩),gJ,zI i,gL,gM,gN,gO,gP,gQ,gR,gT,gV,gW,gX,gY,gZ,i6,i7,i8,ia,ib,ic,ie,ig,ii,ij,ik,il,im,io,ip,iq,ir,iu,iv,iw,iy,iz,iA,iB,iC,iD,iE,iF,iG,iH,iI,iJ,iK,iL,iM,iN,iO,iP,iQ,iR,iS,iT,iU,iV,iW,iX,iY,iZ,j0,j1,j2,j9,jb,jd,je,jf,jg,jh,ji,jj,jk,jl,jm,jn,jo,jp,jq,jr,js,jt,ju,bB,bD,bE,bF,bG,bH,bI,bJ,bK,bL,bM,bN,bO,bP,bQ,bT,bU,bV,bW,bX,bY,bZ,ca,cj,cn,cx,cy],[]⟩ V1:=by
 simp only[Tryz.f74,Zp,z0w] at hops
 simp at hops
 subst hops;have HQ:=hd_ hQ;have HST:=hd_ (fun X=>z5j x X);have cC:∀ d os,Calls Tryz.prog 128 #[.agg #[zI x.kind,zS x.kt,zI x.num,zS x.frm,zS x.dst]] (grow (redrawn V1 d) os) fun e w''=>e=.returned (.bool (z5d x.kind))/\∃ p:Regrown,w''=grow (redrawn V1 p.d) p.os:=fun d os=>Calls.regrown_of (HST _);obtain⟨s0,s1,s2,s3,s4⟩:=hx;have e0:=cell_regrown s0;have e1:=cell_regrown s1;have e2:=cell_regrown s2;have e3:=cell_regrown s3;have e4:=cell_regrown s4;have b0:=cell_regrown hh;clear s0 s1 s2 s3 s4 hh hQ;generalize z5d x.kind=b at cC HQ;by_cases h1:x.kt=hp
 ·have q1:(x.kt.toList == hp.toList)=true:=by rw[z5m,decide_eq_true h1]
  rw[decide_eq_true h1,Bool.true_or] at HQ;clear h1;refine wp_region_quiet_below (by kernel_rfl) (by kernel_rfl) ?_
  repeat (first | go_big_quiet_step (exact cC _ _) | quiet_step (exact cC _ _))
  refine wpQuiet_nil ?_;intro _ hw9;obtain⟨⟨dq,osq⟩,hw9⟩:=hw9;subst hw9;exact HQ _ _ _ _ _ _ _ _ _ _ _ _ _ _ _ (below_regrown V1 dq osq)
 ·have q1:(x.kt.toList == hp.toList)=false:=by rw[z5m,decide_eq_false h1]
  rw[decide_eq_false h1,Bool.false_or] at HQ;clear h1;refine wp_region_quiet_below (by kernel_rfl) (by kernel_rfl) ?_
  repeat (first | go_big_quiet_step (exact cC _ _) | quiet_step (exact cC _ _))
  refine wpQuiet_nil ?_;intro _ hw9;obtain⟨⟨dq,osq⟩,hw9⟩:=hw9;subst hw9;exact HQ _ _ _ _ _ _ _ _ _ _ _ _ _ _ _ (below_regrown V1 dq osq)
structure Bk3 (X wr:zW)(B B2:Nat)(Ap:zP)(c bC:Nat)(pl:List Syn)(b:zA->Bool)(QH:List Hav)(qv:zV):Prop where
 own:zj6 wr B (zL Ap pl.length c) (z7v b pl)
 com:zkp wr X.heap.size B2 bC (zkq pl pl.length)
 low:Below B X wr
 que:zj9 wr B2 84 3 qv QH.length (QH.flatMap Hav.cells)
 b2:B2<=wr.heap.size
theorem zo9 (b:zA->Bool)(pl:List Syn):(z7v b pl).length=pl.length:=Zk _
section
variable {X wr wx : zW} {B B2 g c bC : Nat} {Ap : zP} {pl : List Syn} {b : zA -> Bool} {QH : List Hav} {qv : zV}
theorem Bk3.ku (h:Bk3 X wr B B2 Ap c bC pl b QH qv)(hb:zB wr wx)(hB:B<=B2):Bk3 X wx B B2 Ap c bC pl b QH qv:=
 ⟨z0n h.own hb,h.com.keep fun x hx _=>hb.block x (Zq hx h.b2),h.low.trans (hb.mono (Zf hB h.b2)),h.que.kw hb,Zf h.b2 hb.size⟩
theorem Bk3.pop {x:Hav}{ad:Addr}{cq:Nat}(h:Bk3 X wr B B2 Ap c bC pl b (x :: QH) (zL (some ad) (QH.length+1) cq)):Bk3 X wr B B2 Ap c bC pl b QH (zL (if cq=1 then some ad else some ⟨ad.block,ad.off+3,none⟩) QH.length (cq - 1)):=by
 have hq:zj9 wr B2 84 3 (zL (some ad) (QH.length+1) cq) (QH.length+1) ((x :: QH).flatMap Hav.cells):=h.que;have ht:=hq.tail;have hd:((x :: QH).flatMap Hav.cells).drop 3=QH.flatMap Hav.cells:=by rw[ZG];rfl
 rw[hd] at ht;exact⟨h.own,h.com,h.low,ht,h.b2⟩
theorem Bk3.mark_ (h:Bk3 X wr B B2 (some ⟨g,0,none⟩) c bC pl b QH qv)(hs:z7i pl){k:Nat}(hk:k<pl.length)(hg:g<X.heap.size)(hB:B<=g)(hX:X.heap.size<=B2)(hC:X.heap.size<=bC):
  Bk3 X (wr.setCell ⟨g,k * 5,none⟩ (zI 5)) B B2 (some ⟨g,0,none⟩) c bC pl (setB b pl[k].kt) QH qv:=by
 have hk2:k<(z7v b pl).length:=by rw[zo9];exact hk
 have ho:=zj6.put h.own hk2 5;rw[zkx hs b hk hk2] at ho;refine⟨ho,h.com.keep fun x _ hx=>Ya wr ⟨g,k * 5,none⟩ _ x ?_,h.low.setCell hB _,h.que.setCell (p:=⟨g,k * 5,none⟩) (fun e=>by have h2:=(h.que.lt g e).1;omega) _,by simpa [World.setCell] using h.b2⟩
 show x≠g
 rcases hx with hx | hx
 ·omega
 ·omega
theorem Bk3.push {y:Hav}{A':zP}{c':Nat}(h:Bk3 X wr B B2 Ap c bC pl b QH qv)(hB:B<=B2)(hg:∀ x,(zL Ap pl.length c).ownBlock=some x->x<B2)(hq:zj9 wx B2 84 3 (zL A' (QH.length+1) c') (QH.length+1) (QH.flatMap Hav.cells++y.cells))(hs:zo8 wr wx qv):
  Bk3 X wx B B2 Ap c bC pl b (QH++[y]) (zL A' (QH.length+1) c'):=by
 have hlt:=h.que.lt;refine⟨?_,h.com.keep fun x hx _=>hs.block (Zq hx h.b2) (fun e=>by have:=(hlt x e).1;omega),hs.low h.low (Zf hB h.b2) (fun k e=>Zf hB (hlt k e).1),?_,Zf h.b2 hs.size⟩
 ·refine⟨h.own.1,?_⟩;rcases h.own.2 with e | ⟨g',cap,cur,e1,h1,h2,h3⟩
  ·exact .inl e
  ·refine .inr ⟨g',cap,cur,e1,h1,(hs.block (ZC.1 h2).1 (fun e=>?_)).trans h2,h3⟩;have h5:=(hlt g' e).1;have h6:=hg g' (by rw[e1];rfl)
   omega
 ·rw[Zc,ZI];have e:[y].flatMap Hav.cells=y.cells:=by simp
  rw[e];exact hq
end
end
