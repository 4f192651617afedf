/- A part. -/
import Derived.Test.YtlnjaagijaadmaaGreatDoorMvw15
import Derived.Test.YtlnjaagijaadmaaGreatDoorMvw16
set_option linter.unusedVariables false
set_option linter.unusedSimpArgs false
set_option maxHeartbeats 4000000
set_option maxRecDepth 100000
namespace Go.Proofs.YtlnjaagijaadmaaGreatDoor
open Go.RowKit
def zkk (g:zA->Option zV)(k:zA):zV:=(g k).getD (zL none 0 0)
def zkl (l:List Nat):List zV:=l.map fun(i:Nat)=>zI i
theorem zkm (l:List Nat)(i:Nat):zkl (l++[i])=zkl l++[zI i]:=by unfold zkl;rw[Zs];rfl
theorem zkn {w:zW}{B:Nat}{e:TypeId}{size n:Nat}{v:zV}{xs:List zV}(h:w.ownsRow B e size v n xs){x:Nat}(hx:v.ownBlock=some x){es:Array MapEntry}{c:Nat}(hm:w.heap[x]? = some (.map es c)):False:=by
 rcases h.2 with⟨rfl,_⟩ | ⟨g,cap,cur,rfl,_,hg,_⟩
 ·cases hx
 ·injection hx with hx
  subst hx;have hx':w.heap[g]? = some (.map es c):=hm;rw[hg] at hx';cases hx'
theorem zko {κ α:Type}[BEq κ]{kv:κ->zV}{enc:α->zV}{w:zW}{b:Nat}{f:κ->Option α}(h:z2l kv enc w b f):∃ es c,w.heap[b]? = some (.map es c):=by
 obtain⟨m,⟨es,c,hm,_⟩,_⟩:=h;exact⟨es,c,hm⟩
structure ComG (w:zW)(B U b:Nat)(f:zA->List Nat)(g:zA->Option zV):Prop where
 map:z2l zS id w b g
 row:∀ k,w.ownsRow B 3 1 (zkk g k) (f k).length (zkl (f k))
 apart:∀ k k' x,k≠k'->(zkk g k).ownBlock=some x->(zkk g k').ownBlock≠some x
 up:∀ k x,(zkk g k).ownBlock=some x->x<U
 bu:b<U
def zkp (w:zW)(B U b:Nat)(f:zA->List Nat):Prop:=∃ g,ComG w B U b f g
theorem zkp.new (w:zW)(B:Nat):zkp (w.alloc (.map #[] 0)) B (w.heap.size+1) w.heap.size (fun _=>[]):=
 ⟨fun _=>none,z2l.new zS id w,fun _=>Zv _ _ _ _,(fun _ _ _ _ h=>by cases h),(fun _ _ h=>by cases h),ZT _⟩
theorem zkp.keep {w w':zW}{B U b:Nat}{f:zA->List Nat}(h:zkp w B U b f)(hk:∀ x,x<U->(B<=x\/x=b)->w'.heap[x]? = w.heap[x]?):zkp w' B U b f:=by
 obtain⟨g,h1,h2,h3,h4,h5⟩:=h;refine⟨g,h1.keep (hk b h5 (.inr rfl)),fun k=>?_,h3,h4,h5⟩;have hr:=h2 k;refine⟨hr.1,?_⟩;rcases hr.2 with e | ⟨g1,cap,cur,e1,e2,e3,e4⟩
 ·exact .inl e
 ·exact .inr ⟨g1,cap,cur,e1,e2,(hk g1 (h4 k g1 (by rw[e1];rfl)) (.inl e2)).trans e3,e4⟩
theorem zkp.upTo {w:zW}{B U U' b:Nat}{f:zA->List Nat}(h:zkp w B U b f)(hU:U<=U'):zkp w B U' b f:=by
 obtain⟨g,h1,h2,h3,h4,h5⟩:=h;exact⟨g,h1,h2,h3,fun k x e=>Zq (h4 k x e) hU,Zq h5 hU⟩
theorem zkp.look {w:zW}{B U b:Nat}{f:zA->List Nat}(h:zkp w B U b f)(k:zA):
  ∃ A c,(∀ W:zW,W.heap[b]? = w.heap[b]?->(Instr.lookup 197 (.map (some b)) (zS k) false).run Tryz.prog W=.ok (zL A (f k).length c) W)/\w.ownsRow B 3 1 (zL A (f k).length c) (f k).length (zkl (f k)) /\
   (∀ x,(zL A (f k).length c).ownBlock=some x->x<U/\B<=x) /\
   ∀(W:zW) (A':zP) (c' n i U':Nat),w.grownBy W (zL A (f k).length c).ownBlock->n=(f k).length+1->W.ownsRow B 3 1 (zL A' n c') n (zkl (f k)++[zI i])->U<=w.heap.size->U<=U'->W.heap.size<=U' ->
    ((zL A' n c').ownBlock=(zL A (f k).length c).ownBlock\/∃ x,(zL A' n c').ownBlock=some x/\w.heap.size<=x) ->
    ∃ W2,(Instr.mapUpdate 197 (.map (some b)) (zS k) (zL A' n c')).run Tryz.prog W=.ok () W2/\zkp W2 B U' b (fun x=>if x=k then f k++[i] else f x)/\W.grownBy W2 (some b)/\W2.heap.size=W.heap.size:=by
 obtain⟨g,h1,h2,h3,h4,h5⟩:=h;have hv:z2n id (zL none 0 0) false (g k)=zkk g k:=by unfold z2n zkk;cases g k <;> rfl
 have hlk:∀ W:zW,W.heap[b]? = w.heap[b]?->(Instr.lookup 197 (.map (some b)) (zS k) false).run Tryz.prog W=.ok (zkk g k) W:=fun W hW=>by
  rw[<- hv];exact z2l.lookup (w:=W) (h1.keep hW) (z2j Tryz.underlying9) Tryz.underlying197 (z:=zL none 0 0) (by rfl) k false
 obtain⟨A,c,hsl⟩:=z0o (h2 k);have hrow:=h2 k;have hup:=h4 k;rw[hsl] at hrow hup;simp only[hsl] at hlk
 refine⟨A,c,hlk,hrow,fun x hx=>⟨hup x hx,(hrow.lt x hx).1⟩,?_⟩;intro W A' c' n i U' hg hn hown hUs hU hW hloc;subst hn;have hbs:b<w.heap.size:=h1.lt;have hbrow:∀ k x,(zkk g k).ownBlock=some x->x≠b:=by
  intro k x hx e;subst e;obtain⟨es,cc,hm⟩:=zko h1;exact zkn (h2 k) hx hm
 have h1W:z2l zS id W b g:=h1.grown hg (by
  intro e;have:=hbrow k b (by rw[hsl];exact e.symm)
  exact this rfl)
 obtain⟨W2,hu,hM,hgr,hsz⟩:=z2l.update (w:=W) h1W (z2j Tryz.underlying9) Tryz.underlying197 k (zL A' ((f k).length+1) c');refine⟨W2,hu,⟨upd g k (zL A' ((f k).length+1) c'),hM,?_,?_,?_,Zq h5 hU⟩,hgr,hsz⟩
 ·have hrk:zkk (upd g k (zL A' ((f k).length+1) c')) k=zL A' ((f k).length+1) c':=by unfold zkk upd;rw[if_pos rfl];rfl
  intro k';by_cases e:k'=k
  ·subst e;rw[hrk,if_pos rfl];have hl:(f k'++[i]).length=(f k').length+1:=by simp
   rw[hl,zkm];refine hown.kept hgr ?_;obtain⟨es,cc,hm⟩:=zko h1W;by_cases hb:(zL A' ((f k').length+1) c').ownBlock=some b
   ·exact absurd hm (fun hm=>zkn hown hb hm)
   ·exact .inr hb
  ·have hrk':zkk (upd g k (zL A' ((f k).length+1) c')) k'=zkk g k':=by unfold zkk upd;rw[if_neg e]
   rw[hrk',if_neg e];refine ((h2 k').kept hg ?_).kept hgr ?_
   ·cases hb:(zkk g k').ownBlock with
    | none=>exact .inl rfl
    | some x =>
     refine .inr fun e2=>?_;exact h3 k' k x e hb (by rw[hsl];exact e2.symm)
   ·cases hb:(zkk g k').ownBlock with
    | none=>exact .inl rfl
    | some x=>exact .inr fun e2=>hbrow k' x hb (by injection e2)
 ·intro k1 k2 x hne hx hx2;by_cases e1:k1=k
  ·subst e1;have e2:¬ k2=k1:=fun e=>hne e.symm;have hrk:zkk (upd g k1 (zL A' ((f k1).length+1) c')) k1=zL A' ((f k1).length+1) c':=by unfold zkk upd;rw[if_pos rfl];rfl
   have hrk':zkk (upd g k1 (zL A' ((f k1).length+1) c')) k2=zkk g k2:=by unfold zkk upd;rw[if_neg e2]
   rw[hrk] at hx;rw[hrk'] at hx2;rcases hloc with h | ⟨y,h,hy⟩
   ·rw[h,<- hsl] at hx;exact h3 k1 k2 x hne hx hx2
   ·rw[h] at hx;injection hx with hx
    have:=((h2 k2).lt x hx2).2;omega
  ·have hrk':zkk (upd g k (zL A' ((f k).length+1) c')) k1=zkk g k1:=by unfold zkk upd;rw[if_neg e1]
   rw[hrk'] at hx;by_cases e2:k2=k
   ·subst e2;have hrk:zkk (upd g k2 (zL A' ((f k2).length+1) c')) k2=zL A' ((f k2).length+1) c':=by unfold zkk upd;rw[if_pos rfl];rfl
    rw[hrk] at hx2;rcases hloc with h | ⟨y,h,hy⟩
    ·rw[h,<- hsl] at hx2;exact h3 k1 k2 x hne hx hx2
    ·rw[h] at hx2;injection hx2 with hx2
     have:=((h2 k1).lt x hx).2;omega
   ·have hrk2:zkk (upd g k (zL A' ((f k).length+1) c')) k2=zkk g k2:=by unfold zkk upd;rw[if_neg e2]
    rw[hrk2] at hx2;exact h3 k1 k2 x hne hx hx2
 ·intro k' x hx;by_cases e:k'=k
  ·subst e;have hrk:zkk (upd g k' (zL A' ((f k').length+1) c')) k'=zL A' ((f k').length+1) c':=by unfold zkk upd;rw[if_pos rfl];rfl
   rw[hrk] at hx;have:=(hown.lt x hx).2;omega
  ·have hrk':zkk (upd g k (zL A' ((f k).length+1) c')) k'=zkk g k':=by unfold zkk upd;rw[if_neg e]
   rw[hrk'] at hx;exact Zq (h4 k' x hx) hU
def zkq (pl:List Syn)(k:Nat)(l:zA):List Nat:=(List.range k).filter fun i=>decide (∃ x,pl[i]? = some x/\x.dst=l/\x.dst≠z2r)
def putF (f:zA->List Nat)(l:zA)(i:Nat):zA->List Nat:=fun x=>if x=l then f l++[i] else f x
theorem comF_no {pl:List Syn}{k:Nat}(hk:k<pl.length)(h:pl[k].dst=z2r):zkq pl (k+1)=zkq pl k:=by
 funext l
 unfold zkq;rw[List.range_succ,List.filter_append];rw[show ([k].filter fun i=>decide (∃ x,pl[i]? = some x/\x.dst=l/\x.dst≠z2r))=[] from ?_,ZM];rw[List.filter_cons,if_neg,List.filter_nil];rw[decide_eq_true_iff];rintro⟨x,hx,-,hn⟩;rw[Ze hk] at hx;injection hx with hx
 subst hx;exact hn h
theorem zkr {pl:List Syn}{k:Nat}(hk:k<pl.length)(h:pl[k].dst≠z2r):zkq pl (k+1)=putF (zkq pl k) pl[k].dst k:=by
 funext l
 unfold putF;have hu:zkq pl (k+1) l=zkq pl k l++([k].filter fun i=>decide (∃ x,pl[i]? = some x/\x.dst=l/\x.dst≠z2r)):=by
  unfold zkq;rw[List.range_succ,List.filter_append]
 rw[hu,List.filter_cons,List.filter_nil];by_cases e:l=pl[k].dst
 ·subst e;rw[if_pos rfl,if_pos];rw[decide_eq_true_iff];exact⟨pl[k],Ze hk,rfl,h⟩
 ·rw[if_neg e,if_neg,ZM];rw[decide_eq_true_iff];rintro⟨x,hx,h1,-⟩;rw[Ze hk] at hx;injection hx with hx
  subst hx;exact e h1.symm
theorem comF_lt {pl:List Syn}{k:Nat}{l:zA}{i:Nat}(h:i∈zkq pl k l):i<pl.length/\∃ x,pl[i]? = some x/\x.dst=l/\x.dst≠z2r:=by
 unfold zkq at h;obtain⟨h1,h2⟩:=List.mem_filter.1 h;rw[decide_eq_true_iff] at h2;obtain⟨x,hx,h3⟩:=h2;exact⟨(ZR.1 hx).1,x,hx,h3⟩
theorem zks (pl:List Syn)(k:Nat)(l:zA):(zkq pl k l).length<=k:=by
 unfold zkq;exact Zf (ZS _ _) (by rw[List.length_range];exact Zd _)
theorem zkt {pl:List Syn}{x:Syn}(hx:x∈pl)(hd:x.dst≠z2r):∃ i,i∈zkq pl pl.length x.dst/\pl[i]? = some x:=by
 obtain⟨i,hi,rfl⟩:=ZF hx;refine⟨i,?_,Ze hi⟩;unfold zkq;refine List.mem_filter.2 ⟨List.mem_range.2 hi,?_⟩;rw[decide_eq_true_iff];exact⟨pl[i],Ze hi,rfl,hd⟩
def stF (pl:List Syn):Nat->zA->Option Nat
 | 0=>fun _=>none
 | k+1=>match pl[k]? with
  | some x=>upd (stF pl k) x.kt k
  | none=>stF pl k
theorem zku {pl:List Syn}{k:Nat}(hk:k<pl.length):stF pl (k+1)=upd (stF pl k) pl[k].kt k:=by
 show (match pl[k]? with | some x=>upd (stF pl k) x.kt k | none=>stF pl k)=_
 rw[Ze hk]
theorem zkv {pl:List Syn}{k i:Nat}{p:zA}(hk:k<=pl.length)(h:stF pl k p=some i):i<k/\∃ hi:i<pl.length,pl[i].kt=p:=by
 induction k with
 | zero=>cases h
 | succ k ih =>
  rw[zku hk] at h;unfold upd at h;split at h
  ·rename_i e
   injection h with h
   subst h;exact⟨by omega,hk,e.symm⟩
  ·obtain⟨h1,h2⟩:=ih (by omega) h
   exact⟨by omega,h2⟩
theorem zkw {pl:List Syn}{k:Nat}{p:zA}(hk:k<=pl.length)(h:stF pl k p=none):∀ i (hi:i<pl.length),i<k->pl[i].kt≠p:=by
 induction k with
 | zero=>intro i _ h;omega
 | succ k ih =>
  intro i hi hik e;rw[zku hk] at h;unfold upd at h;split at h
  ·cases h
  ·rename_i e2
   by_cases e3:i=k
   ·subst e3;exact e2 e.symm
   ·exact ih (by omega) h i hi (by omega) e
theorem stF_get {pl:List Syn}(hs:z7i pl)(p:zA):z7k pl p=(stF pl pl.length p).bind fun i=>pl[i]?:=by
 cases h:stF pl pl.length p with
 | none =>
  refine z79.2 fun a ha e=>?_;obtain⟨i,hi,rfl⟩:=ZF ha;exact zkw (Zd _) h i hi hi e
 | some i =>
  obtain⟨-,hi,e⟩:=zkv (Zd _) h;show _=pl[i]?
  rw[Ze hi,<- e];exact z7b hs (Za hi)
theorem zkx {pl:List Syn}(hs:z7i pl)(b:zA->Bool){k:Nat}(hk:k<pl.length)(hk2:k<(z7v b pl).length):(z7v b pl).set k (zj7 5 (z7v b pl)[k])=z7v (setB b pl[k].kt) pl:=by
 refine List.ext_getElem (by unfold z7v;simp) fun j h1 h2=>?_
 have hj:j<pl.length:=by unfold z7v at h2;simpa using h2
 have e1:∀(b:zA->Bool) (h:j<(z7v b pl).length),(z7v b pl)[j]=z7u b pl[j]:=fun b h=>by
  show (pl.map (z7u b))[j]'(by simpa [z7v] using h)=_
  rw[List.getElem_map]
 rw[List.getElem_set,e1 (setB b pl[k].kt) h2];by_cases e:k=j
 ·subst e;have hb:setB b pl[k].kt pl[k].kt=true:=zkc;have e2:=e1 b hk2;have e3:z7u (setB b pl[k].kt) pl[k]=zj7 5 pl[k]:=by unfold z7u;rw[if_pos hb];rfl
  have e4:∀ x:Syn,zj7 5 (z7u b x)=zj7 5 x:=fun x=>by unfold z7u;split <;> rfl
  rw[if_pos rfl,e3];exact (congrArg (zj7 5) e2).trans (e4 _)
 ·rw[if_neg e,e1];have hp:pl[j].kt≠pl[k].kt:=fun ep=>by
   have hh:=List.pairwise_iff_getElem.1 hs;rcases Nat.lt_or_gt_of_ne e with h | h
   ·exact z74 (hh k j hk hj h) ep.symm
   ·exact z74 (hh j k hj hk h) ep
  unfold z7u;have:setB b pl[k].kt pl[j].kt=b pl[j].kt:=by unfold setB;rw[decide_eq_false hp,Bool.false_or]
  rw[this]
open Go.Sort (grow)
section
variable {u0 u1 u2 u3 u4 u5 u6 u7 u8 u9 gF gG gH gI gJ gK gL gM gN gO gP gQ gR gT gV gW gX gY gZ i6 i7 i8 ia ib ic ie ig ii ij ik il im io ip iq ir iu iv iw iy iz iA iB iC iD iE iF iG iH iI iJ iK iL iM iN iO iP iQ iR iS iT iU iV iW iX iY iZ j0 j1 j2 j9 jb jd je jf jg jh ji jj jk jl jm jn jo jp jq jr js jt ju bB bD bE bF bG bH bI bJ bK bL bM bN bO bP bQ bT bU bV bW bX bY bZ ca cj cn cx cy : zV}
theorem intElem:z0e Tryz.prog 22 3 1 8:=z0f Tryz.underlying22 (z:=zI 0) (by kernel_rfl) rfl (by decide)
structure Bk1 (X wr:zW)(bS bC:Nat)(F:zA->Option Nat)(f:zA->List Nat):Prop where
 low:zB X wr
 st:z2l zS natV wr bS F
 com:zkp wr X.heap.size wr.heap.size bC f
 ne:bS≠bC
 leC:X.heap.size<=bC
theorem Bk1.ku {X wr wx:zW}{bS bC:Nat}{F:zA->Option Nat}{f:zA->List Nat}(h:Bk1 X wr bS bC F f)(hb:zB wr wx):Bk1 X wx bS bC F f:=
 ⟨z0r h.low hb,h.st.kw hb,(h.com.keep fun x hx _=>hb.block x hx).upTo hb.size,h.ne,h.leC⟩
theorem zky {w:zW}{B g:Nat}{e e2:TypeId}{size n:Nat}{v:zV}{xs cs:List zV}(h:w.ownsRow B e size v n xs)(hb:Blk w g e2 cs)(he:e≠e2):v.ownBlock≠some g:=by
 intro hx;rcases h.2 with⟨rfl,_⟩ | ⟨g',cap,cur,rfl,_,hg,_⟩
 ·cases hx
 ·injection hx with hx
  have hx':g'=g:=hx;subst hx';have hb':w.heap[g']? = _:=hb;rw[hg] at hb';injection hb' with hb'
  injection hb' with _ e1
  exact he e1
theorem bkR7 (ops:Array Oper)(hops:Tryz.f74.body.bind (z0w 7)=some ops)(Q:Exit->Act->zW->Prop)(X V1:zW)(g7 bS bC:Nat)(F:zA->Option Nat)(f:zA->List Nat)(x:Syn)(i:Nat)
  (hI:Bk1 X V1 bS bC F f) (hx:Blk V1 g7 99 [zI x.kind,zS x.kt,zI x.num,zS x.frm,zS x.dst]) (hf:(f x.dst).length<=1000000) (hX:X.heap.size<=V1.heap.size)
  (hQ:∀(eM eN eO eP eQ eR eS eT eU eV:zV) (w':zW),Hid (Bk1 X w' bS bC F (putF f x.dst i))->Q .normal ⟨#[u0,u1,u2,u3,u4,.map (some bC),zI i,.pointer (some ⟨g7,0,none⟩),u8,u9,gF,gG,gH,gI,gJ,gK,gL,gM,gN,gO,gP,gQ,gR,gT,gV,gW,gX,gY,gZ,i6,i7,i8,eM,eN,eO,eP,eQ,eR,eS,eT,eU,eV,io,ip,iq,ir,iu,iv,iw,iy,iz,iA,iB,iC,iD,iE,iF,iG,iH,iI,iJ,iK,iL,iM,iN,iO,iP,iQ,iR,iS,iT,iU,iV,iW,iX,iY,iZ,j0,j1,j2,j9,jb,jd,je,jf,jg,jh,ji,jj,jk,jl,jm,jn,jo,jp,jq,jr,js,jt,ju,bB,bD,bE,bF,bG,bH,bI,bJ,bK,bL,bM,bN,bO,bP,bQ,bT,bU,bV,bW,bX,bY,bZ,ca,cj,cn,cx,cy],[]⟩ w'):
  (Code.region 7 ops true).wp Tryz.prog Q ⟨#[u0,u1,u2,u3,u4,.map (some bC),zI i,.pointer (some ⟨g7,0,none⟩),u8,u9,gF,gG,gH,gI,gJ,gK,gL,gM,gN,gO,gP,gQ,gR,gT,gV,gW,gX,gY,gZ,i6,i7,i8,ia,ib,ic,ie,ig,ii,ij,ik,il,im,io,ip,iq,ir,iu,iv,iw,iy,iz,iA,iB,iC,iD,iE,iF,iG,iH,iI,iJ,iK,iL,iM,iN,iO,iP,iQ,iR,iS,iT,iU,iV,iW,iX,iY,iZ,j0,j1,j2,j9,jb,jd,je,jf,jg,jh,ji,jj,jk,jl,jm,jn,jo,jp,jq,jr,js,jt,ju,bB,bD,bE,bF,bG,bH,bI,bJ,bK,bL,bM,bN,bO,bP,bQ,bT,bU,bV,bW,bX,bY,bZ,ca,cj,cn,cx,cy],[]⟩ V1:=by
 simp only[Tryz.f74,Zp,z0w] at hops
 simp at hops
 subst hops;obtain⟨A,c,hlk,hrow,hup,hback⟩:=hI.com.look x.dst;have hbC:bC<V1.heap.size:=by obtain⟨g,hg⟩:=hI.com;exact hg.map.lt
 have hnr:=zky hrow hx (by decide)
 have HL:Hid (∀ W,zB V1 W->(Instr.lookup 197 (.map (some bC)) (zS x.dst) false).run Tryz.prog W=.ok (zL A (f x.dst).length c) W):=hd_ fun W hW=>hlk W (hW.block bC hbC);have HX:Hid (∀ W,zB V1 W->W.cell? ⟨g7,4,none⟩=some (zS x.dst)):=hd_ fun W hW=>(hx.kw hW hx.lt).cell 4;have HX2:Hid (∀ Y W,zB V1 Y->Y.grownBy W (zL A (f x.dst).length c).ownBlock->W.cell? ⟨g7,4,none⟩=some (zS x.dst)):=hd_ fun Y W hY hG=>((hx.kw hY hx.lt).grown hG (fun e=>hnr e.symm)).cell 4;have HROW:Hid (∀ W,zB V1 W->W.ownsRow X.heap.size 3 1 (zL A (f x.dst).length c) (f x.dst).length (zkl (f x.dst))):=hd_ fun W hW=>z0n hrow hW;have HEND:Hid (∀(Y W:zW) (A':zP) (c':Nat),zB V1 Y->Y.grownBy W (zL A (f x.dst).length c).ownBlock->W.ownsRow X.heap.size 3 1 (zL A' ((f x.dst).length+1) c') ((f x.dst).length+1) (zkl (f x.dst)++[zI i]) ->
   ((zL A' ((f x.dst).length+1) c').ownBlock=(zL A (f x.dst).length c).ownBlock\/(zL A' ((f x.dst).length+1) c').ownBlock=some Y.heap.size) ->
   ∃ W2,(Instr.mapUpdate 197 (.map (some bC)) (zS x.dst) (zL A' ((f x.dst).length+1) c')).run Tryz.prog W=.ok () W2/\Bk1 X W2 bS bC F (putF f x.dst i)):=hd_ fun Y W A' c' hY hG hO hB=>by
  have hg1:V1.grownBy W (zL A (f x.dst).length c).ownBlock:=⟨hG.os.trans hY.os,hG.tape.trans hY.tape,hG.output.trans hY.output,Zf hY.size hG.size,fun k hk hne=>(hG.block k (Zq hk hY.size) hne).trans (hY.block k hk)⟩;obtain⟨W2,h1,h2,h3,h4⟩:=hback W A' c' _ i W.heap.size hg1 rfl hO (Zd _) hg1.size (Zd _) (by
   rcases hB with e | e
   ·exact .inl e
   ·exact .inr ⟨_,e,hY.size⟩)
  have hrb:∀ k,(zL A (f x.dst).length c).ownBlock=some k->X.heap.size<=k:=fun k hk=>(hup k hk).2;obtain⟨es,cc,hm⟩:=zko hI.st;have hbS:(zL A (f x.dst).length c).ownBlock≠some bS:=fun e=>zkn hrow e hm;have hl1:zB X W:=hI.low.grown hg1 hX hrb;exact⟨W2,h1,⟨hl1.grown h3 (Zf hX hg1.size) (fun k e=>by injection e with e;have:=hI.leC;omega),(hI.st.grown hg1 (fun e=>hbS e.symm)).grown h3 (fun e=>hI.ne (by injection e)),by rw[h4];exact h2,hI.ne,hI.leC⟩⟩
 have HQ:=hd_ hQ;have hdr:zB V1 V1.drew:=(Zb _ _).drew;have hda:zB V1 (V1.alloc (zC #[zI i] 3)).drew:=(z0t (Zb _ _) _).drew;have HDA:=hd_ hda;have x1:=HX.out V1 (Zb _ _);have x2:=HX.out _ hda;have l1:=HL.out _ hdr;have l2:=HL.out _ hda;have HF:=hd_ hf;have HSZ:Hid (X.heap.size<=(V1.alloc (zC #[zI i] 3)).drew.heap.size):=hd_ (Zf hX hda.size);clear hQ hI hx hlk hrow hup hback hdr hda hf hX hbC hnr;generalize f x.dst=fl at *;refine wp_region_noPanic ?_;go_region_law (first
  | (refine step_app (base:=X.heap.size) rfl rfl intElem (HROW _ HDA) (by simp [Act.eval,Act.put];done) (Row.drew (z0i V1 [zI i] _ 1 1 rfl (by decide) _ rfl)) (by simp [Act.eval,Act.put];done) (by simp [Value.oneCell']) (by have:=HF.out;omega) (by have:=HF.out;unfold maxLen;omega) HSZ ?_;intro A6 c6 w6 hO6 hG6 hw6;have x6:=HX2.out _ _ HDA.out hG6;obtain⟨W2,hup2,hfin⟩:=HEND.out _ _ _ _ HDA.out hG6 hO6 hw6))
 all_goals exact NoPanic.normal (HQ _ _ _ _ _ _ _ _ _ _ _ (hd_ hfin))
end
