/- A part. -/
import Derived.Test.YtijghobkkdbhnaaGreatDoorMgw18
set_option linter.unusedVariables false
set_option linter.unusedSimpArgs false
set_option maxHeartbeats 4000000
set_option maxRecDepth 100000
namespace Go.Proofs.YtijghobkkdbhnaaGreatDoor
open Go.Proofs.Tryz
open Go.RowKit
abbrev Fl:=ByteArray×ByteArray
def Shut (b:ByteArray→Bool)(pr:List Syn)(p l:ByteArray):Prop:=∀ x∈pr,z3o x.kind=false→b x.path=false→x.dst≠z2l→x.dst=l→x.path=p
structure BkIn (hs:List Hav)(pl:List Syn)(b:ByteArray→Bool)(Q:List Fl)(p l:ByteArray)(pr:List Syn):Prop where
 sound:∀ q,b q=true→Bl hs pl q
 one:(∃ h∈hs,h.path=p∧h.loc=l)∧zer pl b p
 que:∀ q∈Q,(∃ h∈hs,h.path=q.1∧h.loc=q.2)∧zer pl b q.1
 done:∀ h∈hs,zer pl b h.path→(h.path,h.loc)∈Q∨Shut b pl h.path h.loc∨(h.path=p∧h.loc=l)
 shut:Shut b pr p l
structure BkSt (hs:List Hav)(pl:List Syn)(b:ByteArray→Bool)(Q:List Fl):Prop where
 sound:∀ q,b q=true→Bl hs pl q
 que:∀ q∈Q,(∃ h∈hs,h.path=q.1∧h.loc=q.2)∧zer pl b q.1
 done:∀ h∈hs,zer pl b h.path→(h.path,h.loc)∈Q∨Shut b pl h.path h.loc
def setB (b:ByteArray→Bool)(p:ByteArray):ByteArray→Bool:=fun q=>decide (q=p) || b q
section
variable {hs : List Hav} {pl : List Syn} {b : ByteArray → Bool} {Q : List Fl}
theorem zju {p q:ByteArray}(h:b q=true):setB b p q=true:=by unfold setB;rw[h,Bool.or_true]
theorem zjv {p:ByteArray}:setB b p p=true:=by unfold setB;simp
theorem zjw {p q:ByteArray}(h:setB b p q=true):q=p∨b q=true:=by unfold setB at h;simpa using h
theorem zjx {p q:ByteArray}(h:setB b p q=false):q≠p∧b q=false:=by
 unfold setB at h;simp only[Bool.or_eq_false_iff,decide_eq_false_iff_not] at h
 exact h
theorem zjy {p q:ByteArray}(h:zer pl b q):zer pl (setB b p) q:=by
 rcases h with h | ⟨y,h,h1 | h1⟩
 ·exact .inl h
 ·exact .inr ⟨y,h,.inl h1⟩
 ·exact .inr ⟨y,h,.inr (zju h1)⟩
theorem zjz {p q l:ByteArray}{pr:List Syn}(h:Shut b pr q l):Shut (setB b p) pr q l:=fun x hx h1 h2=>h x hx h1 (zjx h2).2
theorem bk_init (hs:List Hav)(pl:List Syn)(Q:List Fl)(hq:∀ q,q∈Q↔∃ h∈hs,(h.path,h.loc)=q∧zer pl (fun _=>false) h.path):BkSt hs pl (fun _=>false) Q:=
 ⟨(fun q h=>by cases h),(fun q hQ=>by
  obtain⟨f,h1,h2,h3⟩:=(hq q).1 hQ;subst h2;exact⟨⟨f,h1,rfl,rfl⟩,h3⟩),fun f hh hs2=>.inl ((hq _).2 ⟨f,hh,rfl,hs2⟩)⟩
theorem bk_pop {p l:ByteArray}(h:BkSt hs pl b ((p,l) :: Q)):BkIn hs pl b Q p l []:=
 ⟨h.sound,h.que _ (List.mem_cons_self ..),fun q hq=>h.que q (List.mem_cons_of_mem _ hq),(fun x hx hs2=>by
  rcases h.done x hx hs2 with h1 | h1
  ·rcases List.mem_cons.1 h1 with h1 | h1
   ·exact .inr (.inr (by injection h1 with a c;exact⟨a,c⟩))
   ·exact .inl h1
  ·exact .inr (.inl h1)),(fun x hx=>by cases hx)⟩
theorem bk_skip {p l:ByteArray}{pr:List Syn}{x:Syn}(h:BkIn hs pl b Q p l pr)(hx:x.path=p∨z3o x.kind=true∨b x.path=true):BkIn hs pl b Q p l (pr++[x]):=
 ⟨h.sound,h.one,h.que,h.done,fun y hy h1 h2 h3 h4=>by
  rcases List.mem_append.1 hy with hy | hy
  ·exact h.shut y hy h1 h2 h3 h4
  ·rw[List.mem_singleton] at hy;subst hy;rcases hx with e | e | e
   ·exact e
   ·rw[h1] at e;cases e
   ·rw[h2] at e;cases e⟩
theorem zk0 {p l:ByteArray}{pr:List Syn}{x:Syn}(hsrt:z6d pl)(h1:zf6 hs)(hfrm:∀ x∈pl,x.frm=zjp hs x.path)(h:BkIn hs pl b Q p l pr)(hx:x∈pl)(hp:x.path≠p)(hk:z3o x.kind=false)(hd:x.dst≠z2l)(hl:x.dst=l):
  BkIn hs pl (setB b x.path) (if x.frm=z2l then Q else Q++[(x.path,x.frm)]) p l (pr++[x]):=by
 have hg:z6f pl x.path=some x:=z65 hsrt hx;have hst:zer pl (setB b x.path) x.path:=.inr ⟨x,hg,.inr zjv⟩;obtain⟨⟨f,f1,f2,f3⟩,f4⟩:=h.one;refine⟨fun q hq=>?_,⟨⟨f,f1,f2,f3⟩,zjy f4⟩,fun q hq=>?_,fun y hy hs2=>?_,fun y hy e1 e2 e3 e4=>?_⟩
 ·rcases zjw hq with rfl | hq
  ·exact zet h.sound hx hk hd f1 (by rw[f3,hl]) (by rw[f2];exact fun e=>hp e.symm) (by rw[f2];exact f4)
  ·exact h.sound q hq
 ·by_cases hf:x.frm=z2l
  ·rw[if_pos hf] at hq;obtain⟨a,c⟩:=h.que q hq;exact⟨a,zjy c⟩
  ·rw[if_neg hf] at hq;rcases List.mem_append.1 hq with hq | hq
   ·obtain⟨a,c⟩:=h.que q hq;exact⟨a,zjy c⟩
   ·rw[List.mem_singleton] at hq;subst hq;refine⟨?_,hst⟩;have e:=hfrm x hx;unfold zjp at e;cases hh:z6e hs x.path with
    | none=>rw[hh] at e;exact absurd e hf
    | some a =>
     rw[hh] at e;obtain⟨m1,m2⟩:=zjq hh;exact⟨a,m1,m2,e.symm⟩
 ·by_cases ep:y.path=x.path
  ·-- the file of the step that was blocked just now
   have e:=hfrm x hx;unfold zjp at e;rw[← ep,getH_of h1 hy] at e;have e':x.frm=y.loc:=e;have hf:¬ x.frm=z2l:=by rw[e'];exact h1.locNe hy
   rw[if_neg hf];exact .inl (List.mem_append.2 (.inr (by rw[List.mem_singleton,ep,e'])))
  ·have hs3:zer pl b y.path:=by
    rcases hs2 with h2 | ⟨z,h2,h3 | h3⟩
    ·exact .inl h2
    ·exact .inr ⟨z,h2,.inl h3⟩
    ·rcases zjw h3 with h3 | h3
     ·exact absurd h3 ep
     ·exact .inr ⟨z,h2,.inr h3⟩
   rcases h.done y hy hs3 with h2 | h2 | h2
   ·refine .inl ?_;split
    ·exact h2
    ·exact List.mem_append.2 (.inl h2)
   ·exact .inr (.inl (zjz h2))
   ·exact .inr (.inr h2)
 ·obtain⟨o1,o2⟩:=zjx e2;rcases List.mem_append.1 hy with hy | hy
  ·exact h.shut y hy e1 o2 e3 e4
  ·rw[List.mem_singleton] at hy;subst hy;exact absurd rfl o1
theorem bk_end {p l:ByteArray}{pr:List Syn}(h1:zf6 hs)(h:BkIn hs pl b Q p l pr)(hall:∀ x∈pl,x.dst≠z2l→x.dst=l→x∈pr):BkSt hs pl b Q:=
 ⟨h.sound,h.que,fun y hy hs2=>by
  rcases h.done y hy hs2 with h2 | h2 | ⟨h2,h3⟩
  ·exact .inl h2
  ·exact .inr h2
  ·refine .inr fun x hx e1 e2 e3 e4=>?_;rw[h3] at e4;rw[h2];exact h.shut x (hall x hx e3 e4) e1 e2 e3 e4⟩
theorem bk_over (h:BkSt hs pl b []):b=blB hs pl:=
 zes h.sound fun x hx h1 h2 h3 f hf h4 h5 h6=>by
  rcases h.done f hf h6 with h7 | h7
  ·cases h7
  ·exact h5 (h7 x hx h1 h2 h3 h4.symm).symm
def zk1 (b:ByteArray→Bool)(pl:List Syn):Nat:=(pl.filter fun x=>!z3o x.kind && !b x.path).length
theorem zk2 {x:Syn}(hx:x∈pl)(hk:z3o x.kind=false)(hb:b x.path=false):zk1 (setB b x.path) pl+1≤zk1 b pl:=by
 unfold zk1;induction pl with
 | nil=>cases hx
 | cons y pl ih =>
  have le:∀ l:List Syn,(l.filter fun z=>!z3o z.kind && !(setB b x.path) z.path).length≤(l.filter fun z=>!z3o z.kind && !b z.path).length:=by
   intro l;induction l with
   | nil=>exact Nat.le_refl _
   | cons z l ih =>
    rw[List.filter_cons,List.filter_cons];by_cases c:(!z3o z.kind && !(setB b x.path) z.path)=true
    ·have c2:(!z3o z.kind && !b z.path)=true:=by
      simp only[Bool.and_eq_true,Bool.not_eq_true'] at c ⊢
      exact⟨c.1,(zjx c.2).2⟩
     rw[if_pos c,if_pos c2];exact Nat.succ_le_succ ih
    ·rw[if_neg c];split
     ·exact Nat.le_succ_of_le ih
     ·exact ih
  rw[List.filter_cons,List.filter_cons];by_cases e:y.path=x.path
  ·have c1:¬(!z3o y.kind && !(setB b x.path) y.path)=true:=by rw[e,zjv];simp
   rw[if_neg c1];rcases List.mem_cons.1 hx with rfl | hx
   ·have c2:(!z3o x.kind && !b x.path)=true:=by rw[hk,hb];rfl
    rw[if_pos c2];exact Nat.succ_le_succ (le pl)
   ·split
    ·exact Nat.le_succ_of_le (ih hx)
    ·exact ih hx
  ·have hx':x∈pl:=by
    rcases List.mem_cons.1 hx with rfl | h
    ·exact absurd rfl e
    ·exact h
   have same:(setB b x.path) y.path=b y.path:=by unfold setB;rw[decide_eq_false e,Bool.false_or]
   rw[same];split
   ·exact Nat.succ_le_succ (ih hx')
   ·exact ih hx'
end
def zk3 (g:ByteArray→Option Value)(k:ByteArray):Value:=(g k).getD (.slice none 0 0)
def zk4 (l:List Nat):List Value:=l.map fun(i:Nat)=>.int .i64 i
theorem zk5 (l:List Nat)(i:Nat):zk4 (l++[i])=zk4 l++[.int .i64 i]:=by unfold zk4;rw[List.map_append];rfl
theorem zk6 {w:World}{B:Nat}{e:TypeId}{size n:Nat}{v:Value}{xs:List Value}(h:w.ownsRow B e size v n xs){x:Nat}(hx:v.ownBlock=some x){es:Array MapEntry}{c:Nat}(hm:w.heap[x]? = some (.map es c)):False:=by
 rcases h.2 with⟨rfl,_⟩ | ⟨g,cap,cur,rfl,_,hg,_⟩
 ·cases hx
 ·injection hx with hx
  subst hx;have hx':w.heap[g]? = some (.map es c):=hm;rw[hg] at hx';cases hx'
theorem zk7 {κ α:Type}[BEq κ]{kv:κ→Value}{enc:α→Value}{w:World}{b:Nat}{f:κ→Option α}(h:z2f kv enc w b f):∃ es c,w.heap[b]? = some (.map es c):=by
 obtain⟨m,⟨es,c,hm,_⟩,_⟩:=h;exact⟨es,c,hm⟩
structure ComG (w:World)(B U b:Nat)(f:ByteArray→List Nat)(g:ByteArray→Option Value):Prop where
 map:z2f Value.string id w b g
 row:∀ k,w.ownsRow B 3 1 (zk3 g k) (f k).length (zk4 (f k))
 apart:∀ k k' x,k≠k'→(zk3 g k).ownBlock=some x→(zk3 g k').ownBlock≠some x
 up:∀ k x,(zk3 g k).ownBlock=some x→x<U
 bu:b<U
def zk8 (w:World)(B U b:Nat)(f:ByteArray→List Nat):Prop:=∃ g,ComG w B U b f g
theorem zk8.new (w:World)(B:Nat):zk8 (w.alloc (.map #[] 0)) B (w.heap.size+1) w.heap.size (fun _=>[]):=
 ⟨fun _=>none,z2f.new Value.string id w,fun _=>World.ownsRow_nil _ _ _ _,(fun _ _ _ _ h=>by cases h),(fun _ _ h=>by cases h),Nat.lt_succ_self _⟩
theorem zk8.keep {w w':World}{B U b:Nat}{f:ByteArray→List Nat}(h:zk8 w B U b f)(hk:∀ x,x<U→(B≤x∨x=b)→w'.heap[x]? = w.heap[x]?):zk8 w' B U b f:=by
 obtain⟨g,h1,h2,h3,h4,h5⟩:=h;refine⟨g,h1.keep (hk b h5 (.inr rfl)),fun k=>?_,h3,h4,h5⟩;have hr:=h2 k;refine⟨hr.1,?_⟩;rcases hr.2 with e | ⟨g1,cap,cur,e1,e2,e3,e4⟩
 ·exact .inl e
 ·exact .inr ⟨g1,cap,cur,e1,e2,(hk g1 (h4 k g1 (by rw[e1];rfl)) (.inl e2)).trans e3,e4⟩
theorem zk8.upTo {w:World}{B U U' b:Nat}{f:ByteArray→List Nat}(h:zk8 w B U b f)(hU:U≤U'):zk8 w B U' b f:=by
 obtain⟨g,h1,h2,h3,h4,h5⟩:=h;exact⟨g,h1,h2,h3,fun k x e=>Nat.lt_of_lt_of_le (h4 k x e) hU,Nat.lt_of_lt_of_le h5 hU⟩
theorem zk8.look {w:World}{B U b:Nat}{f:ByteArray→List Nat}(h:zk8 w B U b f)(k:ByteArray):
  ∃ A c,(∀ W:World,W.heap[b]? = w.heap[b]?→(Instr.lookup 163 (.map (some b)) (.string k) false).run prog W=.ok (.slice A (f k).length c) W)∧w.ownsRow B 3 1 (.slice A (f k).length c) (f k).length (zk4 (f k)) ∧
   (∀ x,(Value.slice A (f k).length c).ownBlock=some x→x<U∧B≤x) ∧
   ∀(W:World) (A':Option Addr) (c' n i U':Nat),w.grownBy W (Value.slice A (f k).length c).ownBlock→n=(f k).length+1→W.ownsRow B 3 1 (.slice A' n c') n (zk4 (f k)++[.int .i64 i])→U≤w.heap.size→U≤U'→W.heap.size≤U' →
    ((Value.slice A' n c').ownBlock=(Value.slice A (f k).length c).ownBlock∨∃ x,(Value.slice A' n c').ownBlock=some x∧w.heap.size≤x) →
    ∃ W2,(Instr.mapUpdate 163 (.map (some b)) (.string k) (.slice A' n c')).run prog W=.ok () W2∧zk8 W2 B U' b (fun x=>if x=k then f k++[i] else f x)∧W.grownBy W2 (some b)∧W2.heap.size=W.heap.size:=by
 obtain⟨g,h1,h2,h3,h4,h5⟩:=h;have hv:z2h id (.slice none 0 0) false (g k)=zk3 g k:=by unfold z2h zk3;cases g k <;> rfl
 have hlk:∀ W:World,W.heap[b]? = w.heap[b]?→(Instr.lookup 163 (.map (some b)) (.string k) false).run prog W=.ok (zk3 g k) W:=fun W hW=>by
  rw[← hv];exact z2f.lookup (w:=W) (h1.keep hW) (z2d underlying9) underlying163 (z:=.slice none 0 0) (by rfl) k false
 obtain⟨A,c,hsl⟩:=z0o (h2 k);have hrow:=h2 k;have hup:=h4 k;rw[hsl] at hrow hup;simp only[hsl] at hlk
 refine⟨A,c,hlk,hrow,fun x hx=>⟨hup x hx,(hrow.lt x hx).1⟩,?_⟩;intro W A' c' n i U' hg hn hown hUs hU hW hloc;subst hn;have hbs:b<w.heap.size:=h1.lt;have hbrow:∀ k x,(zk3 g k).ownBlock=some x→x≠b:=by
  intro k x hx e;subst e;obtain⟨es,cc,hm⟩:=zk7 h1;exact zk6 (h2 k) hx hm
 have h1W:z2f Value.string id W b g:=h1.grown hg (by
  intro e;have:=hbrow k b (by rw[hsl];exact e.symm)
  exact this rfl)
 obtain⟨W2,hu,hM,hgr,hsz⟩:=z2f.update (w:=W) h1W (z2d underlying9) underlying163 k (.slice A' ((f k).length+1) c');refine⟨W2,hu,⟨upd g k (.slice A' ((f k).length+1) c'),hM,?_,?_,?_,Nat.lt_of_lt_of_le h5 hU⟩,hgr,hsz⟩
 ·have hrk:zk3 (upd g k (.slice A' ((f k).length+1) c')) k=.slice A' ((f k).length+1) c':=by unfold zk3 upd;rw[if_pos rfl];rfl
  intro k';by_cases e:k'=k
  ·subst e;rw[hrk,if_pos rfl];have hl:(f k'++[i]).length=(f k').length+1:=by simp
   rw[hl,zk5];refine hown.kept hgr ?_;obtain⟨es,cc,hm⟩:=zk7 h1W;by_cases hb:(Value.slice A' ((f k').length+1) c').ownBlock=some b
   ·exact absurd hm (fun hm=>zk6 hown hb hm)
   ·exact .inr hb
  ·have hrk':zk3 (upd g k (.slice A' ((f k).length+1) c')) k'=zk3 g k':=by unfold zk3 upd;rw[if_neg e]
   rw[hrk',if_neg e];refine ((h2 k').kept hg ?_).kept hgr ?_
   ·cases hb:(zk3 g k').ownBlock with
    | none=>exact .inl rfl
    | some x =>
     refine .inr fun e2=>?_;exact h3 k' k x e hb (by rw[hsl];exact e2.symm)
   ·cases hb:(zk3 g k').ownBlock with
    | none=>exact .inl rfl
    | some x=>exact .inr fun e2=>hbrow k' x hb (by injection e2)
 ·intro k1 k2 x hne hx hx2;by_cases e1:k1=k
  ·subst e1;have e2:¬ k2=k1:=fun e=>hne e.symm;have hrk:zk3 (upd g k1 (.slice A' ((f k1).length+1) c')) k1=.slice A' ((f k1).length+1) c':=by unfold zk3 upd;rw[if_pos rfl];rfl
   have hrk':zk3 (upd g k1 (.slice A' ((f k1).length+1) c')) k2=zk3 g k2:=by unfold zk3 upd;rw[if_neg e2]
   rw[hrk] at hx;rw[hrk'] at hx2;rcases hloc with h | ⟨y,h,hy⟩
   ·rw[h,← hsl] at hx;exact h3 k1 k2 x hne hx hx2
   ·rw[h] at hx;injection hx with hx
    have:=((h2 k2).lt x hx2).2;omega
  ·have hrk':zk3 (upd g k (.slice A' ((f k).length+1) c')) k1=zk3 g k1:=by unfold zk3 upd;rw[if_neg e1]
   rw[hrk'] at hx;by_cases e2:k2=k
   ·subst e2;have hrk:zk3 (upd g k2 (.slice A' ((f k2).length+1) c')) k2=.slice A' ((f k2).length+1) c':=by unfold zk3 upd;rw[if_pos rfl];rfl
    rw[hrk] at hx2;rcases hloc with h | ⟨y,h,hy⟩
    ·rw[h,← hsl] at hx2;exact h3 k1 k2 x hne hx hx2
    ·rw[h] at hx2;injection hx2 with hx2
     have:=((h2 k1).lt x hx).2;omega
   ·have hrk2:zk3 (upd g k (.slice A' ((f k).length+1) c')) k2=zk3 g k2:=by unfold zk3 upd;rw[if_neg e2]
    rw[hrk2] at hx2;exact h3 k1 k2 x hne hx hx2
 ·intro k' x hx;by_cases e:k'=k
  ·subst e;have hrk:zk3 (upd g k' (.slice A' ((f k').length+1) c')) k'=.slice A' ((f k').length+1) c':=by unfold zk3 upd;rw[if_pos rfl];rfl
   rw[hrk] at hx;have:=(hown.lt x hx).2;omega
  ·have hrk':zk3 (upd g k (.slice A' ((f k).length+1) c')) k'=zk3 g k':=by unfold zk3 upd;rw[if_neg e]
   rw[hrk'] at hx;exact Nat.lt_of_lt_of_le (h4 k' x hx) hU
def zk9 (pl:List Syn)(k:Nat)(l:ByteArray):List Nat:=(List.range k).filter fun i=>decide (∃ x,pl[i]? = some x∧x.dst=l∧x.dst≠z2l)
def putF (f:ByteArray→List Nat)(l:ByteArray)(i:Nat):ByteArray→List Nat:=fun x=>if x=l then f l++[i] else f x
theorem comF_no {pl:List Syn}{k:Nat}(hk:k<pl.length)(h:pl[k].dst=z2l):zk9 pl (k+1)=zk9 pl k:=by
 funext l
 unfold zk9;rw[List.range_succ,List.filter_append];rw[show ([k].filter fun i=>decide (∃ x,pl[i]? = some x∧x.dst=l∧x.dst≠z2l))=[] from ?_,List.append_nil];rw[List.filter_cons,if_neg,List.filter_nil];rw[decide_eq_true_iff];rintro⟨x,hx,-,hn⟩;rw[List.getElem?_eq_getElem hk] at hx;injection hx with hx
 subst hx;exact hn h
theorem zka {pl:List Syn}{k:Nat}(hk:k<pl.length)(h:pl[k].dst≠z2l):zk9 pl (k+1)=putF (zk9 pl k) pl[k].dst k:=by
 funext l
 unfold putF;have hu:zk9 pl (k+1) l=zk9 pl k l++([k].filter fun i=>decide (∃ x,pl[i]? = some x∧x.dst=l∧x.dst≠z2l)):=by
  unfold zk9;rw[List.range_succ,List.filter_append]
 rw[hu,List.filter_cons,List.filter_nil];by_cases e:l=pl[k].dst
 ·subst e;rw[if_pos rfl,if_pos];rw[decide_eq_true_iff];exact⟨pl[k],List.getElem?_eq_getElem hk,rfl,h⟩
 ·rw[if_neg e,if_neg,List.append_nil];rw[decide_eq_true_iff];rintro⟨x,hx,h1,-⟩;rw[List.getElem?_eq_getElem hk] at hx;injection hx with hx
  subst hx;exact e h1.symm
theorem comF_lt {pl:List Syn}{k:Nat}{l:ByteArray}{i:Nat}(h:i∈zk9 pl k l):i<pl.length∧∃ x,pl[i]? = some x∧x.dst=l∧x.dst≠z2l:=by
 unfold zk9 at h;obtain⟨h1,h2⟩:=List.mem_filter.1 h;rw[decide_eq_true_iff] at h2;obtain⟨x,hx,h3⟩:=h2;exact⟨(List.getElem?_eq_some_iff.1 hx).1,x,hx,h3⟩
theorem zkb (pl:List Syn)(k:Nat)(l:ByteArray):(zk9 pl k l).length≤k:=by
 unfold zk9;exact Nat.le_trans (List.length_filter_le _ _) (by rw[List.length_range];exact Nat.le_refl _)
theorem zkc {pl:List Syn}{x:Syn}(hx:x∈pl)(hd:x.dst≠z2l):∃ i,i∈zk9 pl pl.length x.dst∧pl[i]? = some x:=by
 obtain⟨i,hi,rfl⟩:=List.getElem_of_mem hx;refine⟨i,?_,List.getElem?_eq_getElem hi⟩;unfold zk9;refine List.mem_filter.2 ⟨List.mem_range.2 hi,?_⟩;rw[decide_eq_true_iff];exact⟨pl[i],List.getElem?_eq_getElem hi,rfl,hd⟩
def stF (pl:List Syn):Nat→ByteArray→Option Nat
 | 0=>fun _=>none
 | k+1=>match pl[k]? with
  | some x=>upd (stF pl k) x.path k
  | none=>stF pl k
theorem zkd {pl:List Syn}{k:Nat}(hk:k<pl.length):stF pl (k+1)=upd (stF pl k) pl[k].path k:=by
 show (match pl[k]? with | some x=>upd (stF pl k) x.path k | none=>stF pl k)=_
 rw[List.getElem?_eq_getElem hk]
theorem zke {pl:List Syn}{k i:Nat}{p:ByteArray}(hk:k≤pl.length)(h:stF pl k p=some i):i<k∧∃ hi:i<pl.length,pl[i].path=p:=by
 induction k with
 | zero=>cases h
 | succ k ih =>
  rw[zkd hk] at h;unfold upd at h;split at h
  ·rename_i e
   injection h with h
   subst h;exact⟨by omega,hk,e.symm⟩
  ·obtain⟨h1,h2⟩:=ih (by omega) h
   exact⟨by omega,h2⟩
theorem zkf {pl:List Syn}{k:Nat}{p:ByteArray}(hk:k≤pl.length)(h:stF pl k p=none):∀ i (hi:i<pl.length),i<k→pl[i].path≠p:=by
 induction k with
 | zero=>intro i _ h;omega
 | succ k ih =>
  intro i hi hik e;rw[zkd hk] at h;unfold upd at h;split at h
  ·cases h
  ·rename_i e2
   by_cases e3:i=k
   ·subst e3;exact e2 e.symm
   ·exact ih (by omega) h i hi (by omega) e
theorem stF_get {pl:List Syn}(hs:z6d pl)(p:ByteArray):z6f pl p=(stF pl pl.length p).bind fun i=>pl[i]?:=by
 cases h:stF pl pl.length p with
 | none =>
  refine z62.2 fun a ha e=>?_;obtain⟨i,hi,rfl⟩:=List.getElem_of_mem ha;exact zkf (Nat.le_refl _) h i hi hi e
 | some i =>
  obtain⟨-,hi,e⟩:=zke (Nat.le_refl _) h;show _=pl[i]?
  rw[List.getElem?_eq_getElem hi,← e];exact z65 hs (List.getElem_mem hi)
theorem zkg {pl:List Syn}(hs:z6d pl)(b:ByteArray→Bool){k:Nat}(hk:k<pl.length)(hk2:k<(zel b pl).length):(zel b pl).set k (zjg 5 (zel b pl)[k])=zel (setB b pl[k].path) pl:=by
 refine List.ext_getElem (by unfold zel;simp) fun j h1 h2=>?_
 have hj:j<pl.length:=by unfold zel at h2;simpa using h2
 have e1:∀(b:ByteArray→Bool) (h:j<(zel b pl).length),(zel b pl)[j]=zek b pl[j]:=fun b h=>by
  show (pl.map (zek b))[j]'(by simpa [zel] using h)=_
  rw[List.getElem_map]
 rw[List.getElem_set,e1 (setB b pl[k].path) h2];by_cases e:k=j
 ·subst e;have hb:setB b pl[k].path pl[k].path=true:=zjv;have e2:=e1 b hk2;have e3:zek (setB b pl[k].path) pl[k]=zjg 5 pl[k]:=by unfold zek;rw[if_pos hb];rfl
  have e4:∀ x:Syn,zjg 5 (zek b x)=zjg 5 x:=fun x=>by unfold zek;split <;> rfl
  rw[if_pos rfl,e3];exact (congrArg (zjg 5) e2).trans (e4 _)
 ·rw[if_neg e,e1];have hp:pl[j].path≠pl[k].path:=fun ep=>by
   have hh:=List.pairwise_iff_getElem.1 hs;rcases Nat.lt_or_gt_of_ne e with h | h
   ·exact z5z (hh k j hk hj h) ep.symm
   ·exact z5z (hh j k hj hk h) ep
  unfold zek;have:setB b pl[k].path pl[j].path=b pl[j].path:=by unfold setB;rw[decide_eq_false hp,Bool.false_or]
  rw[this]
open Go.Sort (grow)
section
variable {u0 u1 u2 u3 u4 u5 u6 u7 u8 u9 gz gA gC gD gE gF gG gH gI gJ gK gL gM gN gO gP gQ gR gT gV gW gX gY gZ i6 i7 i8 ia ib ic ie ig ii ij ik il im io ip iq ir iu iv iw ix iy iz iA iB iC iD iE iF iG iH iI iJ iK iL iM iN iO iP iQ iR iS iT iU iV iW iX iY iZ j0 j1 j2 j5 j6 j7 j8 j9 jb jd jf jg jh ji jj jk jl bB bD bE bF bG bH bI bJ bK bL bM bN bO bP bQ bT bU bV bW bX bY bZ cj ck cn cx cy : Value}
theorem intElem:z0e prog 22 3 1 8:=z0f underlying22 (z:=.int .i64 0) (by kernel_rfl) rfl (by decide)
structure Bk1 (X wr:World)(bS bC:Nat)(F:ByteArray→Option Nat)(f:ByteArray→List Nat):Prop where
 low:Below X.heap.size X wr
 st:z2f Value.string natV wr bS F
 com:zk8 wr X.heap.size wr.heap.size bC f
 ne:bS≠bC
 leC:X.heap.size≤bC
theorem Bk1.under {X wr wx:World}{bS bC:Nat}{F:ByteArray→Option Nat}{f:ByteArray→List Nat}(h:Bk1 X wr bS bC F f)(hb:Below wr.heap.size wr wx):Bk1 X wx bS bC F f:=
 ⟨z0r h.low hb,h.st.below hb,(h.com.keep fun x hx _=>hb.block x hx).upTo hb.size,h.ne,h.leC⟩
theorem zkh {w:World}{B g:Nat}{e e2:TypeId}{size n:Nat}{v:Value}{xs cs:List Value}(h:w.ownsRow B e size v n xs)(hb:Blk w g e2 cs)(he:e≠e2):v.ownBlock≠some g:=by
 intro hx;rcases h.2 with⟨rfl,_⟩ | ⟨g',cap,cur,rfl,_,hg,_⟩
 ·cases hx
 ·injection hx with hx
  have hx':g'=g:=hx;subst hx';have hb':w.heap[g']? = _:=hb;rw[hg] at hb';injection hb' with hb'
  injection hb' with _ e1
  exact he e1
theorem bkR7 (ops:Array Oper)(hops:Tryz.f47.body.bind (zcn 7)=some ops)(Q:Exit→Act→World→Prop)(X V1:World)(g7 bS bC:Nat)(F:ByteArray→Option Nat)(f:ByteArray→List Nat)(x:Syn)(i:Nat)
  (hI:Bk1 X V1 bS bC F f) (hx:Blk V1 g7 50 [.int .i64 x.kind,.string x.path,.int .i64 x.num,.string x.frm,.string x.dst]) (hf:(f x.dst).length≤1000000) (hX:X.heap.size≤V1.heap.size)
  (hQ:∀(eN eO eP eQ eR eS eT eU eV eW:Value) (w':World),Hid (Bk1 X w' bS bC F (putF f x.dst i))→Q .normal ⟨#[u0,u1,u2,u3,u4,.map (some bC),.int .i64 i,.pointer (some ⟨g7,0,none⟩),u8,u9,gz,gA,gC,gD,gE,gF,gG,gH,gI,gJ,gK,gL,gM,gN,gO,gP,gQ,gR,gT,gV,gW,gX,eN,eO,eP,eQ,eR,eS,eT,eU,eV,eW,ii,ij,ik,il,im,io,ip,iq,ir,iu,iv,iw,ix,iy,iz,iA,iB,iC,iD,iE,iF,iG,iH,iI,iJ,iK,iL,iM,iN,iO,iP,iQ,iR,iS,iT,iU,iV,iW,iX,iY,iZ,j0,j1,j2,j5,j6,j7,j8,j9,jb,jd,jf,jg,jh,ji,jj,jk,jl,bB,bD,bE,bF,bG,bH,bI,bJ,bK,bL,bM,bN,bO,bP,bQ,bT,bU,bV,bW,bX,bY,bZ,cj,ck,cn,cx,cy],[]⟩ w'):
  (Code.region 7 ops true).wp prog Q ⟨#[u0,u1,u2,u3,u4,.map (some bC),.int .i64 i,.pointer (some ⟨g7,0,none⟩),u8,u9,gz,gA,gC,gD,gE,gF,gG,gH,gI,gJ,gK,gL,gM,gN,gO,gP,gQ,gR,gT,gV,gW,gX,gY,gZ,i6,i7,i8,ia,ib,ic,ie,ig,ii,ij,ik,il,im,io,ip,iq,ir,iu,iv,iw,ix,iy,iz,iA,iB,iC,iD,iE,iF,iG,iH,iI,iJ,iK,iL,iM,iN,iO,iP,iQ,iR,iS,iT,iU,iV,iW,iX,iY,iZ,j0,j1,j2,j5,j6,j7,j8,j9,jb,jd,jf,jg,jh,ji,jj,jk,jl,bB,bD,bE,bF,bG,bH,bI,bJ,bK,bL,bM,bN,bO,bP,bQ,bT,bU,bV,bW,bX,bY,bZ,cj,ck,cn,cx,cy],[]⟩ V1:=by
 simp only[Tryz.f47,Option.bind_some,zcn] at hops
 simp at hops
 subst hops;obtain⟨A,c,hlk,hrow,hup,hback⟩:=hI.com.look x.dst;have hbC:bC<V1.heap.size:=by obtain⟨g,hg⟩:=hI.com;exact hg.map.lt
 have hnr:=zkh hrow hx (by decide)
 have HL:Hid (∀ W,Below V1.heap.size V1 W→(Instr.lookup 163 (.map (some bC)) (.string x.dst) false).run prog W=.ok (.slice A (f x.dst).length c) W):=hd_ fun W hW=>hlk W (hW.block bC hbC);have HX:Hid (∀ W,Below V1.heap.size V1 W→W.cell? ⟨g7,4,none⟩=some (.string x.dst)):=hd_ fun W hW=>(hx.below hW hx.lt).cell 4;have HX2:Hid (∀ Y W,Below V1.heap.size V1 Y→Y.grownBy W (Value.slice A (f x.dst).length c).ownBlock→W.cell? ⟨g7,4,none⟩=some (.string x.dst)):=hd_ fun Y W hY hG=>((hx.below hY hx.lt).grown hG (fun e=>hnr e.symm)).cell 4;have HROW:Hid (∀ W,Below V1.heap.size V1 W→W.ownsRow X.heap.size 3 1 (.slice A (f x.dst).length c) (f x.dst).length (zk4 (f x.dst))):=hd_ fun W hW=>z0n hrow hW;have HEND:Hid (∀(Y W:World) (A':Option Addr) (c':Nat),Below V1.heap.size V1 Y→Y.grownBy W (Value.slice A (f x.dst).length c).ownBlock→W.ownsRow X.heap.size 3 1 (.slice A' ((f x.dst).length+1) c') ((f x.dst).length+1) (zk4 (f x.dst)++[.int .i64 i]) →
   ((Value.slice A' ((f x.dst).length+1) c').ownBlock=(Value.slice A (f x.dst).length c).ownBlock∨(Value.slice A' ((f x.dst).length+1) c').ownBlock=some Y.heap.size) →
   ∃ W2,(Instr.mapUpdate 163 (.map (some bC)) (.string x.dst) (.slice A' ((f x.dst).length+1) c')).run prog W=.ok () W2∧Bk1 X W2 bS bC F (putF f x.dst i)):=hd_ fun Y W A' c' hY hG hO hB=>by
  have hg1:V1.grownBy W (Value.slice A (f x.dst).length c).ownBlock:=⟨hG.os.trans hY.os,hG.tape.trans hY.tape,hG.output.trans hY.output,Nat.le_trans hY.size hG.size,fun k hk hne=>(hG.block k (Nat.lt_of_lt_of_le hk hY.size) hne).trans (hY.block k hk)⟩;obtain⟨W2,h1,h2,h3,h4⟩:=hback W A' c' _ i W.heap.size hg1 rfl hO (Nat.le_refl _) hg1.size (Nat.le_refl _) (by
   rcases hB with e | e
   ·exact .inl e
   ·exact .inr ⟨_,e,hY.size⟩)
  have hrb:∀ k,(Value.slice A (f x.dst).length c).ownBlock=some k→X.heap.size≤k:=fun k hk=>(hup k hk).2;obtain⟨es,cc,hm⟩:=zk7 hI.st;have hbS:(Value.slice A (f x.dst).length c).ownBlock≠some bS:=fun e=>zk6 hrow e hm;have hl1:Below X.heap.size X W:=hI.low.grown hg1 hX hrb;exact⟨W2,h1,⟨hl1.grown h3 (Nat.le_trans hX hg1.size) (fun k e=>by injection e with e;have:=hI.leC;omega),(hI.st.grown hg1 (fun e=>hbS e.symm)).grown h3 (fun e=>hI.ne (by injection e)),by rw[h4];exact h2,hI.ne,hI.leC⟩⟩
 have HQ:=hd_ hQ;have hdr:Below V1.heap.size V1 V1.drew:=(Below.refl _ _).drew;have hda:Below V1.heap.size V1 (V1.alloc (.cells #[.int .i64 i] 3)).drew:=(zck (Below.refl _ _) _).drew;have HDA:=hd_ hda;have x1:=HX.out V1 (Below.refl _ _);have x2:=HX.out _ hda;have l1:=HL.out _ hdr;have l2:=HL.out _ hda;have HF:=hd_ hf;have HSZ:Hid (X.heap.size≤(V1.alloc (.cells #[.int .i64 i] 3)).drew.heap.size):=hd_ (Nat.le_trans hX hda.size);clear hQ hI hx hlk hrow hup hback hdr hda hf hX hbC hnr;generalize f x.dst=fl at *;refine wp_region_noPanic ?_;go_region_law (first
  | (refine zcj (base:=X.heap.size) rfl rfl intElem (HROW.out _ HDA.out) (by simp [Act.eval,Act.put];done) (Row.drew (z0i V1 [.int .i64 i] _ 1 1 rfl (by decide) _ rfl)) (by simp [Act.eval,Act.put];done) (by simp [Value.oneCell']) (by have:=HF.out;omega) (by have:=HF.out;unfold maxLen;omega) HSZ.out ?_;intro A6 c6 w6 hO6 hG6 hw6;have x6:=HX2.out _ _ HDA.out hG6;obtain⟨W2,hup2,hfin⟩:=HEND.out _ _ _ _ HDA.out hG6 hO6 hw6))
 all_goals exact NoPanic.normal (HQ.out _ _ _ _ _ _ _ _ _ _ _ (hd_ hfin))
end
section
variable {u0 u1 u2 u3 u4 u5 u6 u7 u8 u9 gz gA gC gD gE gF gG gH gI gJ gK gL gM gN gO gP gQ gR gT gV : Value}
theorem zlq {P:Program}{w:World}{t e:TypeId}{size n c hi:Nat}{A:Option Addr}{xs:List Value}(ht:P.underlying t=some (.slice e))(hs:∀ w,(sizeOf e).run P w=.ok size w)
  (h:Row w size (.slice A n c) n xs) (h2:hi≤n):
  ∃ A' c',(∀ X,(Instr.sliceAt t (.slice A n c) none (some (.int .i64 hi)) none).run P X=.ok (.slice A' hi c') X)∧∀ W:World,Row W size (.slice A n c) n xs→Row W size (.slice A' hi c') hi (xs.take (hi * size)):=by
 have hc:n≤c:=by obtain⟨A',c',e,hc,_⟩:=id h;injection e with e1 e2 e3;omega
 have he:P.elem t=e:=by simp [Program.elem,ht]
 have ht':P.underlying t=some (.slice (P.elem t)):=by rw[he];exact ht
 have hr:∀ W:World,Row W size (.slice A n c) n xs→Row W size (.slice (if c=0 then A else A.map (·.add 0)) hi c) hi (xs.take (hi * size)):=fun W hW=>by
  have hr:=Row.slice hW (Nat.zero_le hi) h2;simp only[Nat.zero_mul,List.drop_zero,Nat.sub_zero] at hr
  exact hr
 refine⟨_,_,fun X=>?_,hr⟩
 ·rw[run_sliceAt_slice X t _ _ _ _ ht',run_slice_h X t A n c ht' _ _ (by omega) (by omega),he,hs]
  simp [Result.andThen,sliced]
theorem zlr {P:Program}{w:World}{t e:TypeId}{size n c lo:Nat}{A:Option Addr}{xs:List Value}(ht:P.underlying t=some (.slice e))(hs:∀ w,(sizeOf e).run P w=.ok size w)
  (h:Row w size (.slice A n c) n xs) (h1:lo≤n):
  ∃ A' c',(∀ X,(Instr.sliceAt t (.slice A n c) (some (.int .i64 lo)) none none).run P X=.ok (.slice A' (n - lo) c') X)∧∀ W:World,Row W size (.slice A n c) n xs→Row W size (.slice A' (n - lo) c') (n - lo) (xs.drop (lo * size)):=by
 have he:P.elem t=e:=by simp [Program.elem,ht]
 have ht':P.underlying t=some (.slice (P.elem t)):=by rw[he];exact ht
 have hr:∀ W:World,Row W size (.slice A n c) n xs→Row W size (.slice (if c=lo then A else A.map (·.add (lo * size))) (n - lo) (c - lo)) (n - lo) (xs.drop (lo * size)):=fun W hW=>by
  have hr:=Row.slice hW h1 (Nat.le_refl _);rw[List.take_of_length_le (by rw[List.length_drop,h.len,← Nat.sub_mul];exact Nat.le_refl _)] at hr
  exact hr
 refine⟨_,_,fun X=>?_,hr⟩
 ·rw[run_sliceAt_slice X t _ _ _ _ ht',run_slice_l X t A n c ht' _ _ (by omega) (by omega),he,hs]
  simp [Result.andThen,sliced]
theorem zls (l:List Hav):∀ v∈l.flatMap Hav.cells,v.oneCell'=true:=by
 intro v hv;obtain⟨x,-,hx⟩:=List.mem_flatMap.1 hv;exact z55 x v hx
theorem zlt (l:List Hav)(i:Nat):(l.flatMap Hav.cells).take (i * 3)=(l.take i).flatMap Hav.cells:=by
 induction l generalizing i with
 | nil=>simp
 | cons x l ih =>
  cases i with
  | zero=>simp
  | succ i =>
   have e:(i+1) * 3=3+i * 3:=by omega
   rw[List.take_succ_cons,List.flatMap_cons,List.flatMap_cons,← ih,e];exact List.take_length_add_append (l₁:=x.cells) (i * 3)
theorem zlu (l:List Hav)(i:Nat):(l.flatMap Hav.cells).drop (i * 3)=(l.drop i).flatMap Hav.cells:=by
 induction l generalizing i with
 | nil=>simp
 | cons x l ih =>
  cases i with
  | zero=>simp
  | succ i =>
   have e:(i+1) * 3=3+i * 3:=by omega
   rw[List.drop_succ_cons,List.flatMap_cons,← ih,e];exact List.drop_length_add_append (l₁:=x.cells) (i * 3)
theorem zlv {w w':World}{v:Value}(hG:w.grownBy w' v.ownBlock)(hv:v.ownBlock=none):Below w.heap.size w w':=⟨hG.os,hG.tape,hG.output,hG.size,fun k hk=>hG.block k hk (by rw[hv];simp)⟩
theorem puR2 (ops:Array Oper)(hops:Tryz.f40.body.bind (zcn 2)=some ops)(Q:Exit→Act→World→Prop)(V:World)(A:Option Addr)(c g3 i:Nat)(l:List Hav)(h:Hav)
  (hH:z4b V (.slice A l.length c) l) (hB:Blk V g3 96 [.string h.path,.int .i64 h.num,.string h.loc]) (hi:i≤l.length) (hl:l.length≤1000000)
  (hQ:∀(er et eu ez eA eB eC:Value) (A':Option Addr) (c':Nat) (w':World),Hid (Below V.heap.size V w'∧w'.ownsRow V.heap.size 96 3 (.slice A' (i+1) c') (i+1) ((l.take i++[h]).flatMap Hav.cells))→Q .normal ⟨#[.slice A l.length c,u1,u2,.pointer (some ⟨g3,0,none⟩),u4,.int .i64 i,u6,.slice A' (i+1) c',u8,u9,gz,gA,gC,gD,gE,er,et,eu,ez,eA,eB,eC,gM,gN,gO,gP,gQ,gR,gT,gV],[]⟩ w'):
  (Code.region 2 ops true).wp prog Q ⟨#[.slice A l.length c,u1,u2,.pointer (some ⟨g3,0,none⟩),u4,.int .i64 i,u6,u7,u8,u9,gz,gA,gC,gD,gE,gF,gG,gH,gI,gJ,gK,gL,gM,gN,gO,gP,gQ,gR,gT,gV],[]⟩ V:=by
 simp only[Tryz.f40,Option.bind_some,zcn] at hops
 simp at hops
 subst hops;obtain⟨Ai,ci,hsl,hrw⟩:=zlq (P:=prog) (w:=V) underlying28 zis hH hi;have HQ:=hd_ hQ;have HROW:Hid (∀ W,Below V.heap.size V W→Row W 3 (.slice Ai i ci) i ((l.take i).flatMap Hav.cells)):=hd_ fun W hW=>by rw[← zlt];exact hrw W (z4b.under hH hW)
 have HONE:Hid (∀ v∈(l.take i).flatMap Hav.cells,v.oneCell'=true):=hd_ (zls _);have HF:Hid (∀ w',Below V.heap.size V w'→w'.cell? ⟨g3,0,none⟩=some (.string h.path)∧w'.cell? ⟨g3,1,none⟩=some (.int .i64 h.num)∧w'.cell? ⟨g3,2,none⟩=some (.string h.loc)):=hd_ fun w' hb=>z3s (hB.below hb hB.lt);have HCAT:Hid ((l.take i).flatMap Hav.cells++[.string h.path,.int .i64 h.num,.string h.loc]=(l.take i++[h]).flatMap Hav.cells):=hd_ (by rw[List.flatMap_append];rfl)
 clear hQ hH hB hrw;obtain⟨f0,f1,f2⟩:=HF.out V (Below.refl _ _);refine wp_region_noPanic ?_;go_region_law (first
   | (refine zcj (base:=V.heap.size) (n:=0) (xs:=[]) rfl rfl z54 (World.ownsRow_nil _ _ _ _) (by simp [Act.eval,Act.put];done) (HROW.out _ (Below.refl _ _).drew) (by simp [Act.eval,Act.put];done) HONE.out (by omega) (by unfold maxLen;omega) (by simp) ?_;intro A5 c5 w5 hO5 hG5 hw5;have hX5:=zlv hG5 rfl;have hS5:Below V.heap.size V w5:=(Below.refl _ _).drew.trans hX5;obtain⟨f5,f6,f7⟩:=HF.out w5 hS5;rw[Nat.zero_add,List.nil_append] at hO5)
   | (refine zcj (base:=V.heap.size) (n:=0) (xs:=[]) rfl rfl z54 (World.ownsRow_nil _ _ _ _) (by simp [Act.eval,Act.put];done) (HROW.out _ (by first | exact zck (Below.refl _ _).drew _ | exact (zck (Below.refl _ _) _).drew)) (by simp [Act.eval,Act.put];done) HONE.out (by omega) (by unfold maxLen;omega) (Below.size (by first | exact zck (Below.refl _ _).drew _ | exact (zck (Below.refl _ _) _).drew)) ?_;intro A5 c5 w5 hO5 hG5 hw5;have hX5:=zlv hG5 rfl;have hS5:Below V.heap.size V w5:=z0r (by first | exact zck (Below.refl _ _).drew _ | exact (zck (Below.refl _ _) _).drew) hX5;have hQ5:Blk w5 V.heap.size 96 [.string h.path,.int .i64 h.num,.string h.loc]:=Blk.below' (by first | exact z0l V.drew _ _ | exact Blk.drew' (z0l V _ _)) hX5;rw[Nat.zero_add,List.nil_append] at hO5)
   | (refine zcj rfl rfl z54 (z0n hO5 ((Below.refl _ _).alloc (Nat.le_refl _) _)) (by simp [Act.eval,Act.put];done) (z0i w5 [.string h.path,.int .i64 h.num,.string h.loc] _ 3 1 rfl (by decide) _ rfl) (by simp [Act.eval,Act.put];done) (by simp [Value.oneCell']) (by omega) (by unfold maxLen;omega) (by have:=hS5.size;simp;omega) ?_;intro A6 c6 w6 hO6 hG6 hw6;have hS6:Below V.heap.size V w6:=(hS5.alloc hS5.size _).grown hG6 (hS5.alloc hS5.size _).size (fun k e=>(hO5.lt k e).1))
   | (refine zcj rfl rfl z54 hO5 (by simp [Act.eval,Act.put];done) (hQ5.row (size:=3) (n:=1) rfl (by decide)) (by simp [Act.eval,Act.put];done) (by simp [Value.oneCell']) (by omega) (by unfold maxLen;omega) hS5.size ?_;intro A6 c6 w6 hO6 hG6 hw6;have hS6:Below V.heap.size V w6:=hS5.grown hG6 hS5.size (fun k e=>(hO5.lt k e).1)))
 all_goals exact NoPanic.normal (HQ.out _ _ _ _ _ _ _ _ _ _ (hd_ ⟨hS6,by rw[← HCAT.out];exact hO6⟩))
end
theorem z6y.onto {S:List Nat}{w W w':World}(h:z6y S w W)(hb:Below w.heap.size W w'):z6y S w w':=
 ⟨hb.os.trans h.os,hb.tape.trans h.tape,hb.output.trans h.output,Nat.le_trans h.size hb.size,fun k hk hs=>(hb.block k hk).trans (h.block k hk hs)⟩
theorem zgm.onto {w W w':World}{U g m:Nat}(h:zgm W U g m)(hU:U≤w.heap.size)(hb:Below w.heap.size W w'):zgm w' U g m:=h.keep hb.size fun x hx=>hb.block x (by omega)
def WtPost (w:World)(U g m:Nat)(e:Ending)(w':World):Prop:=∃ ty:Ty,e=.returned ty.val∧zgm w' U g m∧z6y [g] w w'
theorem wt_ret (U g m:Nat)(w w2:World)(ty:Ty)(hB:Blk w2 w.heap.size 85 [.int .i64 0,.bool false,.bool false,.bool false])(hT:zgm w2 U g m)(hK:z6y [g] w w2)(hU:U≤w.heap.size)(u0 u1 u3 u4 u5 u6 u7 u8 u9 gz gA gC gD gE gF gG:Value):
  bodyPost prog Tryz.f108 (WtPost w U g m) .ret ⟨#[u0,u1,.pointer (some ⟨w.heap.size,0,none⟩),u3,u4,u5,u6,u7,u8,u9,gz,gA,gC,gD,gE,gF,gG],[]⟩ ((((w2.setCell ⟨w.heap.size,0,none⟩ (.int .i64 ty.base)).setCell ⟨w.heap.size,1,none⟩ (.bool ty.k)).setCell ⟨w.heap.size,2,none⟩ (.bool ty.l)).setCell ⟨w.heap.size,3,none⟩ (.bool ty.x)):=by
 have hE:=(((hB.set_ 0 (.int .i64 ty.base)).set_ 1 (.bool ty.k)).set_ 2 (.bool ty.l)).set_ 3 (.bool ty.x);have hb:=(((((Below.refl w.heap.size w2).setCell (p:=⟨w.heap.size,0,none⟩) (by simp) (.int .i64 ty.base)).setCell (p:=⟨w.heap.size,1,none⟩) (by simp) (.bool ty.k)).setCell (p:=⟨w.heap.size,2,none⟩) (by simp) (.bool ty.l)).setCell (p:=⟨w.heap.size,3,none⟩) (by simp) (.bool ty.x))
 generalize (((w2.setCell ⟨w.heap.size,0,none⟩ (.int .i64 ty.base)).setCell ⟨w.heap.size,1,none⟩ (.bool ty.k)).setCell ⟨w.heap.size,2,none⟩ (.bool ty.l)).setCell ⟨w.heap.size,3,none⟩ (.bool ty.x)=W8 at hE hb ⊢;have e0:=hE.cell 0;have e1:=hE.cell 1;have e2:=hE.cell 2;have e3:=hE.cell 3;exact bodyPost_ret (v:=ty.val) (by simp [results,results108,go_sem,e0,e1,e2,e3,Ty.val]) rfl ⟨ty,rfl,hT.onto hU hb,hK.onto hb⟩
theorem zmh (U g m:Nat)(w:World)(hT:zgm w U g m)(hU:U≤w.heap.size)(hm:m≤100000):
  Calls prog 108 #[.pointer (some ⟨g,0,none⟩)] w (WtPost w U g (m+1)):=by
 have hg:=hT.lt;obtain⟨W1,hW1⟩:∃ W,W=(w.alloc (.cells #[.int .i64 0,.bool false,.bool false,.bool false] 85)).alloc (.cells #[.int .i64 1,.bool false,.bool false,.bool false,.int .i64 2,.bool false,.bool false,.bool false,.int .i64 1,.bool true,.bool false,.bool false,.int .i64 2,.bool false,.bool false,.bool true,.int .i64 3,.bool false,.bool false,.bool false] 85):=⟨_,rfl⟩;have hA:Below w.heap.size w W1:=by rw[hW1];exact ((Below.refl _ _).alloc (Nat.le_refl _) _).alloc (by simp) _
 have hB0:Blk W1 w.heap.size 85 [.int .i64 0,.bool false,.bool false,.bool false]:=by rw[hW1];exact (z0l w _ _).alloc _
 have hB1:Blk W1 (w.heap.size+1) 85 [.int .i64 1,.bool false,.bool false,.bool false,.int .i64 2,.bool false,.bool false,.bool false,.int .i64 1,.bool true,.bool false,.bool false,.int .i64 2,.bool false,.bool false,.bool true,.int .i64 3,.bool false,.bool false,.bool false]:=by
  rw[hW1];have:=z0l (w.alloc (.cells #[.int .i64 0,.bool false,.bool false,.bool false] 85)) [.int .i64 1,.bool false,.bool false,.bool false,.int .i64 2,.bool false,.bool false,.bool false,.int .i64 1,.bool true,.bool false,.bool false,.int .i64 2,.bool false,.bool false,.bool true,.int .i64 3,.bool false,.bool false,.bool false] 85;simp only[World.size_alloc] at this
  exact this
 have HN:=hd_ (zgn U g m 5 W1 (hT.below hA) (by omega) (by omega))
 have HW:=hd_ hW1;have HB:=hd_ (And.intro hB0 hB1);have HA:=hd_ (z6y.below (S:=[g]) hA);have HU:=hd_ hU;have HG:Hid (w.heap.size∉[g]∧w.heap.size+1∉[g]):=hd_ (by simp;omega)
 clear hT hA hW1 hB0 hB1 hU;go_enter func108,ntmps108;go_upto_region 2 with fail;rw[← HW.out];go_wp2_with fail;refine HN.out.mono ?_;rintro e w2 ⟨k,rfl,hk,hT2,hK2⟩;dsimp only;have HX:Hid (Blk _ _ _ _):=hd_ (hK2.blk HB.out.1 HG.out.1);have hY:=hK2.blk HB.out.2 HG.out.2;obtain⟨y0,y1,y2,y3,y4,y5,y6,y7,y8,y9⟩:=(⟨hY.cell 0,hY.cell 1,hY.cell 2,hY.cell 3,hY.cell 4,hY.cell 5,hY.cell 6,hY.cell 7,hY.cell 8,hY.cell 9⟩:w2.cell? ⟨w.heap.size+1,0,none⟩=some (.int .i64 1)∧w2.cell? ⟨w.heap.size+1,1,none⟩=some (.bool false)∧w2.cell? ⟨w.heap.size+1,2,none⟩=some (.bool false)∧w2.cell? ⟨w.heap.size+1,3,none⟩=some (.bool false)∧w2.cell? ⟨w.heap.size+1,4,none⟩=some (.int .i64 2)∧w2.cell? ⟨w.heap.size+1,5,none⟩=some (.bool false)∧w2.cell? ⟨w.heap.size+1,6,none⟩=some (.bool false)∧w2.cell? ⟨w.heap.size+1,7,none⟩=some (.bool false)∧w2.cell? ⟨w.heap.size+1,8,none⟩=some (.int .i64 1)∧w2.cell? ⟨w.heap.size+1,9,none⟩=some (.bool true));obtain⟨z0,z1,z2,z3,z4,z5,z6,z7,z8,z9⟩:=(⟨hY.cell 10,hY.cell 11,hY.cell 12,hY.cell 13,hY.cell 14,hY.cell 15,hY.cell 16,hY.cell 17,hY.cell 18,hY.cell 19⟩:w2.cell? ⟨w.heap.size+1,10,none⟩=some (.bool false)∧w2.cell? ⟨w.heap.size+1,11,none⟩=some (.bool false)∧w2.cell? ⟨w.heap.size+1,12,none⟩=some (.int .i64 2)∧w2.cell? ⟨w.heap.size+1,13,none⟩=some (.bool false)∧w2.cell? ⟨w.heap.size+1,14,none⟩=some (.bool false)∧w2.cell? ⟨w.heap.size+1,15,none⟩=some (.bool true)∧w2.cell? ⟨w.heap.size+1,16,none⟩=some (.int .i64 3)∧w2.cell? ⟨w.heap.size+1,17,none⟩=some (.bool false)∧w2.cell? ⟨w.heap.size+1,18,none⟩=some (.bool false)∧w2.cell? ⟨w.heap.size+1,19,none⟩=some (.bool false));obtain⟨x0,x1,x2,x3⟩:=(⟨HX.out.cell 0,HX.out.cell 1,HX.out.cell 2,HX.out.cell 3⟩:w2.cell? ⟨w.heap.size,0,none⟩=some (.int .i64 0)∧w2.cell? ⟨w.heap.size,1,none⟩=some (.bool false)∧w2.cell? ⟨w.heap.size,2,none⟩=some (.bool false)∧w2.cell? ⟨w.heap.size,3,none⟩=some (.bool false));obtain⟨f0,f1,f2,f3⟩:=(⟨HX.out.frozen 0,HX.out.frozen 1,HX.out.frozen 2,HX.out.frozen 3⟩:w2.frozen? ⟨w.heap.size,0,none⟩=false∧w2.frozen? ⟨w.heap.size,1,none⟩=false∧w2.frozen? ⟨w.heap.size,2,none⟩=false∧w2.frozen? ⟨w.heap.size,3,none⟩=false)
 have h5:k=0∨k=1∨k=2∨k=3∨k=4:=by obtain⟨a,b,-⟩:=hk;have:=b (by omega);omega
 have HT2:=hd_ hT2;have HK2:=hd_ (HA.out.trans hK2);have HFI:=hd_ (fun ty=>wt_ret U g (m+1) w w2 ty HX.out HT2.out HK2.out HU.out);clear hk hT2 hK2 hY HN;rcases h5 with rfl | rfl | rfl | rfl | rfl
 ·go_wp2_with fail;exact HFI.out ⟨1,false,false,false⟩ _ _ _ _ _ _ _ _ _ _ _ _ _ _ _ _
 ·go_wp2_with fail;exact HFI.out ⟨2,false,false,false⟩ _ _ _ _ _ _ _ _ _ _ _ _ _ _ _ _
 ·go_wp2_with fail;exact HFI.out ⟨1,true,false,false⟩ _ _ _ _ _ _ _ _ _ _ _ _ _ _ _ _
 ·go_wp2_with fail;exact HFI.out ⟨2,false,false,true⟩ _ _ _ _ _ _ _ _ _ _ _ _ _ _ _ _
 ·go_wp2_with fail;exact HFI.out ⟨3,false,false,false⟩ _ _ _ _ _ _ _ _ _ _ _ _ _ _ _ _
