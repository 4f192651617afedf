/- A part. -/
import Derived.Test.YtlnjaagijaadmaaGreatDoorMvw2
import Derived.Test.YtlnjaagijaadmaaGreatDoorMxShelf
import Derived.Deep.DeepCutAuto
import Derived.Deep.RegionLaw
import Derived.Maps.RangeRun
import Derived.IntWalk
set_option linter.unusedVariables false
set_option linter.unusedSimpArgs false
set_option maxHeartbeats 4000000
set_option maxRecDepth 100000
namespace Go.Proofs.YtlnjaagijaadmaaGreatDoor
open Go.Proofs.Tryz
open Go.RowKit
theorem z0n {w w':zW}{B:Nat}{e:TypeId}{k:Nat}{v:zV}{n:Nat}{xs:List zV}(h:w.ownsRow B e k v n xs)(hb:zB w w'):w'.ownsRow B e k v n xs:=by
 refine⟨h.1,?_⟩;rcases h.2 with⟨e1,e2⟩ | ⟨g,cap,cur,e1,h1,hg,rest⟩
 ·exact .inl ⟨e1,e2⟩
 ·exact .inr ⟨g,cap,cur,e1,h1,(hb.block g (ZC.1 hg).1).trans hg,rest⟩
theorem z0o {w:zW}{B:Nat}{e:TypeId}{k:Nat}{v:zV}{n:Nat}{xs:List zV}(h:w.ownsRow B e k v n xs):∃ A c,v=zL A n c:=by
 rcases h.2 with⟨e1,e2⟩ | ⟨g,cap,cur,e1,_⟩
 ·exact⟨none,0,by rw[e1,e2]⟩
 ·exact⟨_,cap,e1⟩
theorem z0p {B:Nat}{a w:zW}(h:Below B a w)(n:Nat):Below B a (w.drewN n):=⟨h.os,h.tape,h.output,h.size,h.block⟩
theorem z0q {B:Nat}{a w w':zW}(h:Below B a w)(hB:B<=w.heap.size)(h2:zB w w'):Below B a w':=h.trans (h2.mono hB)
theorem z0r {w w1 w2:zW}(h1:zB w w1)(h2:zB w1 w2):zB w w2:=h1.trans (h2.mono h1.size)
theorem box4 {w:zW}{g:Nat}{e:TypeId}{a b c d:zV}(h:Blk w g e [a,b,c,d]):
  w.cell? ⟨g,0,none⟩=some a/\w.cell? ⟨g,1,none⟩=some b/\w.cell? ⟨g,2,none⟩=some c/\w.cell? ⟨g,3,none⟩=some d /\
  w.frozen? ⟨g,0,none⟩=false/\w.frozen? ⟨g,1,none⟩=false/\w.frozen? ⟨g,2,none⟩=false/\w.frozen? ⟨g,3,none⟩=false:=
 ⟨h.cell 0,h.cell 1,h.cell 2,h.cell 3,h.frozen 0,h.frozen 1,h.frozen 2,h.frozen 3⟩
theorem z0s {w:zW}{B:Nat}{e:TypeId}{k:Nat}{v:zV}{n:Nat}{xs:List zV}(h:w.ownsRow B e k v n xs)(hn:0<n):∃ g c,v=zL (some ⟨g,0,none⟩) n c:=by
 rcases h.2 with⟨e1,e2⟩ | ⟨g,cap,cur,e1,_⟩
 ·omega
 ·exact⟨_,cap,e1⟩
theorem step_app {P:Program}{W:zW}{ops:Array Oper}{o:Oper}{a:Act}{K:Act->zW->Prop}{Q:Exit->Act->zW->Prop}{E:Prop}(hgd:o.guard=none){s x:Operand}{t:TypeId}
  (ho:o.op=.call { callee:=.builtin .append,args:=#[s,x],argTypes:=#[t,t] })
  {e:TypeId} {size bytes base:Nat} (he:z0e P t e size bytes) {v:zV} {n:Nat} {xs:List zV} (hown:W.ownsRow base e size v n xs) (hs:a.eval s=v)
  {u:zV} {m:Nat} {news:List zV} (hr:Row W size u m news) (hx:a.eval x=u) (h1:∀ u∈news,u.oneCell'=true) (hbytes:(n+m) * bytes<=140737488355328) (h63:n+m<=maxLen) (hbase:base<=W.heap.size)
  (h:∀ A' c' w',w'.ownsRow base e size (zL A' (n+m) c') (n+m) (xs++news)->W.grownBy w' v.ownBlock ->
   ((zL A' (n+m) c').ownBlock=v.ownBlock\/(zL A' (n+m) c').ownBlock=some W.heap.size)->K (a.put o.dst (zL A' (n+m) c')) w'):
  if Region.wanted o (yielded ops a.tmps)=true then Oper.wp P o a W K Q else E:=by
 have hw:Region.wanted o (yielded ops a.tmps)=true:=by simp [Region.wanted,hgd]
 rw[if_pos hw];obtain⟨A',c',w',hrun,h2,h3,h4⟩:=z0h (ty:=o.type) he hown hr h1 hbytes h63 hbase;unfold Oper.wp execOp;simp only[ho,resolve,invoke,builtin,Sem.run_bind,Sem.run_pure,Result.andThen_ok,List.map_toArray,ZN,List.map_nil,hs,hx,hrun]
 exact h A' c' w' h2 h3 h4
theorem z0t {a w:zW}(h:zB a w)(o:Obj):zB a (w.alloc o):=h.alloc h.size o
theorem Blk.below' {w w':zW}{g:Nat}{e:TypeId}{cs:List zV}(h:Blk w g e cs)(hb:zB w w'):Blk w' g e cs:=h.kw hb h.lt
theorem Blk.drew' {w:zW}{g:Nat}{e:TypeId}{cs:List zV}(h:Blk w g e cs):Blk w.drew g e cs:=h
theorem z0u {w:zW}{B:Nat}{e:TypeId}{k:Nat}{v:zV}{n:Nat}{xs:List zV}(h:w.ownsRow B e k v n xs)(o:Obj):(w.alloc o).ownsRow B e k v n xs:=z0n h (zR)
theorem z0v {w:zW}{g:Nat}{cs:List zV}{e:TypeId}(hg:g=w.heap.size):Blk (w.alloc (.cells cs.toArray e)) g e cs:=by rw[hg];exact z0l w cs e
def z0w (n:Nat):Code->Option (Array Oper)
 | .region i ops _=>if i=n then some ops else none
 | .seq a b=>(z0w n a).or (z0w n b)
 | .cond _ a b=>(z0w n a).or (z0w n b)
 | .block _ a=>z0w n a
 | .loop a=>z0w n a
 | _=>none
open Go.ChangeMaps (setBlock)
section
variable {κ : Type} {kv : κ -> zV} {w w' : zW} {r B : Nat} {left : List (κ × zV)}
def z41 (kv:κ->zV)(w:zW)(r B:Nat)(left:List (κ×zV)):Prop:=
 r≠B/\∃(es:Array MapEntry) (clock since c0:Nat) (seen:Array Nat),w.heap[B]? = some (.map es clock)/\w.heap[r]? = some (.mapIter (some B) since seen c0)/\(∀ e∈es.toList,e.born<since)/\since<=c0/\since<=clock/\(es.toList.map (·.born)).Nodup /\
  z1x (leftOf es seen).toList=left.map fun p=>(kv p.1,p.2)
theorem z41.keep (h:z41 kv w r B left)(h1:w'.heap[B]? = w.heap[B]?)(h2:w'.heap[r]? = w.heap[r]?):z41 kv w' r B left:=by
 obtain⟨hne,es,clock,since,c0,seen,a,b,rest⟩:=h;exact⟨hne,es,clock,since,c0,seen,h1.trans a,h2.trans b,rest⟩
theorem z41.lt (h:z41 kv w r B left):r<w.heap.size/\B<w.heap.size:=by
 obtain⟨hne,es,clock,since,c0,seen,a,b,rest⟩:=h;exact⟨(ZC.1 b).1,(ZC.1 a).1⟩
theorem z41.kw (h:z41 kv w r B left)(hb:zB w w'):z41 kv w' r B left:=h.keep (hb.block _ h.lt.2) (hb.block _ h.lt.1)
theorem z41.setCell (h:z41 kv w r B left){p:Addr}(h1:p.block≠r)(h2:p.block≠B)(u:zV):z41 kv (w.setCell p u) r B left:=
 h.keep (Ya w p u B (fun e=>h2 e.symm)) (Ya w p u r (fun e=>h1 e.symm))
theorem z23.range {P:Program}{m:List (κ×zV)}(h:z23 kv w B m){t k e:TypeId}(ht:P.underlying t=some (.map k e)):
  ∃ w',(Instr.range t (.map (some B))).run P w=.ok (.pointer (some ⟨w.heap.size,0,none⟩)) w'/\z41 kv w' w.heap.size B m/\zB w w'/\w'.heap.size=w.heap.size+1:=by
 have hlt:=h.lt;obtain⟨es,clock,hB,hp,hst⟩:=h;refine⟨_,run_range_map w t k e B es clock ht hB,⟨by omega,es,clock,clock,clock,#[],?_,heap_alloc_new w _,hst.1,Zd _,Zd _,hst.2,?_⟩,zR,by simp⟩
 ·rw[heap_alloc_old w _ hlt];exact hB
 ·have:leftOf es #[]=es:=by unfold leftOf;simp
  rw[this];exact hp
theorem z42 {es:List MapEntry}{p:MapEntry->Bool}{e:MapEntry}(hn:(es.map (·.born)).Nodup)(he:e∈es.filter p):
  ∃ a b,es.filter p=a++e :: b/\es.filter (fun x=>p x && !(x.born == e.born))=a++b:=by
 induction es with
 | nil=>simp at he
 | cons x es ih =>
  rw[ZN,List.nodup_cons] at hn;by_cases hxe:x.born=e.born
  ·have hnot:e∉es:=fun h=>hn.1 (by rw[hxe];exact ZD.2 ⟨e,h,rfl⟩)
   have hex:x=e:=by
    have:=(List.mem_filter.1 he).1;rcases Zn.1 this with h | h
    ·exact h.symm
    ·exact absurd h hnot
   subst hex;have hpx:p x=true:=(List.mem_filter.1 he).2;refine⟨[],es.filter p,by simp [hpx],?_⟩
   rw[List.filter_cons];simp only[hpx,beq_self_eq_true,Bool.not_true,Bool.and_false,Bool.false_eq_true,if_false,Yc]
   apply List.filter_congr
   intro y hy;have:y.born≠x.born:=fun h=>hn.1 (by rw[<- h];exact ZD.2 ⟨y,hy,rfl⟩)
   simp [this]
  ·have hne:(x.born == e.born)=false:=by simpa using hxe
   have he':e∈es.filter p:=by
    rw[List.filter_cons] at he;split at he
    ·rcases Zn.1 he with h | h
     ·exact absurd (by rw[h]) hxe
     ·exact h
    ·exact he
   obtain⟨a,b,h1,h2⟩:=ih hn.2 he';cases hpx:p x
   ·exact⟨a,b,by simp [hpx,h1],by simp [hpx,h2]⟩
   ·exact⟨x :: a,b,by simp [hpx,h1],by simp [hpx,hne,h2]⟩
theorem z43 {α β:Type}{f:α->β}{l:List α}{a b:List β}{x:β}(h:a++x :: b=l.map f):∃ l1 y l2,l=l1++y :: l2/\l1.map f=a/\f y=x/\l2.map f=b:=by
 induction a generalizing l with
 | nil =>
  cases l with
  | nil=>simp at h
  | cons y l=>simp at h;exact⟨[],y,l,rfl,rfl,h.1.symm,h.2.symm⟩
 | cons c a ih =>
  cases l with
  | nil=>simp at h
  | cons y l =>
   simp at h
   obtain⟨l1,z,l2,rfl,h1,h2,h3⟩:=ih h.2;exact⟨y :: l1,z,l2,rfl,by simp [h.1,h1],h2,h3⟩
theorem z41.next {P:Program}(h:z41 kv w r B left)(ty:TypeId):
  (left=[]/\(Instr.next (.pointer (some ⟨r,0,none⟩)) false ty).run P w=.ok (.tuple #[.bool false]) w) \/
  ∃ a p b w',left=a++p :: b/\(Instr.next (.pointer (some ⟨r,0,none⟩)) false ty).run P w=.ok (.tuple #[.bool true,kv p.1,p.2]) w'/\z41 kv w' r B (a++b) /\
   (Instr.entry (.pointer (some ⟨r,0,none⟩))).run P w'=.ok (.tuple #[kv p.1,p.2]) w'/\w.grownBy w' (some r)/\w'.heap.size=w.heap.size:=by
 have hltr:=h.lt.1;obtain⟨hne,es,clock,since,c0,seen,hB,hr,hold,hsc,hscl,hnd,hp⟩:=h;rcases run_next_at (P:=P) w ty r B since c0 seen es clock hr hB hold hsc with⟨h0,hrun⟩ | ⟨e,he,w1,hw1,hrun⟩
 ·left
  refine⟨?_,hrun⟩;have:(leftOf es seen).toList=[]:=Zt (by simpa using h0)
  rw[this] at hp;cases left with
  | nil=>rfl
  | cons p l=>simp [z1x] at hp
 ·right
  have he':e∈es.toList.filter (fun x=>!seen.contains x.born):=by
   have:=he;unfold leftOf at this;rwa [Array.toList_filter] at this
  obtain⟨a,b,h1,h2⟩:=z42 hnd he';have hl1:(leftOf es seen).toList=a++e :: b:=by unfold leftOf;rw[Array.toList_filter];exact h1
  have hl2:(leftOf es (seen.push e.born)).toList=a++b:=by
   unfold leftOf;rw[Array.toList_filter,<- h2]
   apply List.filter_congr
   intro x _;rw[Array.contains_push];simp [Bool.not_or]
  rw[hl1] at hp;unfold z1x at hp;rw[Zs,ZN] at hp;obtain⟨l1,p,l2,rfl,q1,q2,q3⟩:=z43 hp;injection q2 with q4 q5
  have hw1h:w1.heap=w.heap:=by rcases hw1 with rfl | rfl <;> rfl
  have hset:∀ o,(setBlock w1 r o).heap[r]? = some o:=fun o=>by simp [setBlock,hw1h,hltr]
  have hoth:∀ o j,j≠r->(setBlock w1 r o).heap[j]? = w.heap[j]?:=fun o j hj=>by simp [setBlock,hw1h,Ne.symm hj]
  have hmem:e∈es.toList:=(List.mem_filter.1 he').1;rw[<- q4,<- q5] at hrun;refine⟨l1,p,l2,_,rfl,hrun,⟨hne,es,clock,since,clock,seen.push e.born,by rw[hoth _ _ (Ne.symm hne)];exact hB,hset _,hold,hscl,hscl,hnd,?_⟩,?_,?_,?_⟩
  ·rw[hl2];unfold z1x;rw[Zs,Zs,q1,q3]
  ·have:=run_entry_at (P:=P) (setBlock w1 r (.mapIter (some B) since (seen.push e.born) clock)) r B since seen es clock e (hset _) (by rw[hoth _ _ (Ne.symm hne)];exact hB) hmem hnd
   rw[<- q4,<- q5] at this;exact this
  ·rcases hw1 with rfl | rfl <;> exact⟨rfl,rfl,rfl,by simp [setBlock],fun k hk hk2=>hoth _ k (fun e=>hk2 (by rw[e]))⟩
  ·simp [setBlock,hw1h]
end
def Under (n k:Int):Prop:=0<=k/\(1<n->k<n)/\(n<=1->k=0)
theorem z4b (x n:Int)(h:1<n):-n<x.tmod n/\x.tmod n<n:=by
 have h1:=Int.tmod_lt_of_pos x (b:=n) (by omega)
 have h2:=Int.lt_tmod_of_pos x (b:=n) (by omega)
 exact⟨by omega,h1⟩
theorem z4c (v n:Int)(w:zW)(hn:n<=1000000000):Calls prog 38 #[zI v,zI n] w fun e w'=>∃ k,e=.returned (zI k)/\Under n k/\w=w':=by
 by_cases h1:n<=1
 ·have q:decide (n<=1)=true:=decide_eq_true h1;go_enter func38,ntmps38;go_wp2_with fail;go_ret;exact⟨0,rfl,⟨by omega,fun h=>by omega,fun _=>rfl⟩,rfl⟩
 ·have q:decide (n<=1)=false:=decide_eq_false h1;have q0:(n == 0)=false:=by rw[beq_eq_false_iff_ne];omega
  have q1:(n == -1)=false:=by rw[beq_eq_false_iff_ne];omega
  obtain⟨a1,a2⟩:=z4b v n (by omega)
  obtain⟨r,hr⟩:∃ r,v.tmod n=r:=⟨_,rfl⟩;rw[hr] at a1 a2;have hw:IntKind.i64.wrap r=r:=by rw[IntKind.wrap_i64];omega
  by_cases h2:r<0
  ·have q2:decide (r<0)=true:=decide_eq_true h2;have hw2:IntKind.i64.wrap (r+n)=r+n:=by rw[IntKind.wrap_i64];omega
   go_enter func38,ntmps38;go_wp2_with fail;go_ret;exact⟨_,rfl,⟨by omega,fun _=>by omega,fun h=>by omega⟩,rfl⟩
  ·have q2:decide (r<0)=false:=decide_eq_false h2;go_enter func38,ntmps38;go_wp2_with fail;go_ret;exact⟨_,rfl,⟨by omega,fun _=>by omega,fun h=>by omega⟩,rfl⟩
theorem z5a {w:zW}{base base':Nat}{e:TypeId}{size n:Nat}{v:zV}{xs:List zV}(h:w.ownsRow base e size v n xs)(hb:base'<=base):w.ownsRow base' e size v n xs:=by
 obtain⟨h1,h2 | ⟨g,cap,cur,e1,h3,h4⟩⟩:=h
 ·exact⟨h1,.inl h2⟩
 ·exact⟨h1,.inr ⟨g,cap,cur,e1,Zf hb h3,h4⟩⟩
theorem z5b {w w':zW}{base:Nat}{e:TypeId}{size n:Nat}{v:zV}{xs:List zV}{row:Option Nat}(h:w.ownsRow base e size v n xs)(hg:w.grownBy w' row)(hne:∀ x,v.ownBlock=some x->row≠some x):w'.ownsRow base e size v n xs:=by
 obtain⟨h1,h2 | ⟨g,cap,cur,e1,h3,h4,h5⟩⟩:=h
 ·exact⟨h1,.inl h2⟩
 ·exact⟨h1,.inr ⟨g,cap,cur,e1,h3,by rw[hg.block g (ZC.1 h4).1 (fun e=>hne g (by rw[e1];rfl) e.symm)];exact h4,h5⟩⟩
theorem z5c {w:zW}{base:Nat}{e:TypeId}{size n:Nat}{v:zV}{xs:List zV}(h:w.ownsRow base e size v n xs){p:Addr}(hne:v.ownBlock≠some p.block)(u:zV):(w.setCell p u).ownsRow base e size v n xs:=by
 obtain⟨h1,h2 | ⟨g,cap,cur,e1,h3,h4,h5⟩⟩:=h
 ·exact⟨h1,.inl h2⟩
 ·exact⟨h1,.inr ⟨g,cap,cur,e1,h3,by rw[Ya w p u g (fun e=>hne (by rw[e1,<- e];rfl))];exact h4,h5⟩⟩
structure Pat where
 kp:List zA
 kr:Bool
def z8r (s:zA):Bool:=Lib.hasPrefix s.data.toList [42]
def z8s (s:zA):Bool:=(s.data.toList.drop 1).all fun c=>z0x c.toNat
def z8t (s:zA):Int:=if z0z s then 1 else if z8r s then (if z8s s then 2 else 0) else 0
def z8u (j:Nat)(x:zA):Bool:=decide (z8t x≠0) && !(decide (j=0) && decide (z8t x=2))
def z8v (l:List zA):Bool:=(List.range l.length).all fun j=>z8u j ((l[j]?).getD z2r)
def z8w (p:Pat):Int:=if p.kp.length=0\/(p.kp.length=1/\p.kr=false) then 30 else if z8v p.kp=false then 30 else if 12<p.kp.length then 31 else 0
theorem z8x {l:List zA}{j:Nat}(h:j<l.length)(hf:z8u j l[j]=false):z8v l=false:=by
 unfold z8v;rw[List.all_eq_false];exact⟨j,List.mem_range.2 h,by rw[Ze h];simpa using hf⟩
theorem z8y {l:List zA}(h:∀ j (hj:j<l.length),z8u j l[j]=true):z8v l=true:=by
 unfold z8v;rw[ZB];intro j hj;rw[List.mem_range] at hj;rw[Ze hj];exact h j hj
theorem z8z {s:zA}{k:Nat}(h:k<s.size)(h1:1<=k)(hb:z0x s[k].toNat=false):z8s s=false:=by
 unfold z8s;rw[List.all_eq_false];have hl:k<s.data.toList.length:=h;refine⟨s.data.toList[k],?_,?_⟩
 ·refine List.mem_iff_getElem.2 ⟨k - 1,by rw[Zu];omega,?_⟩
  rw[List.getElem_drop];congr 1;omega
 ·have e:s.data.toList[k]=s[k]:=by rw[Array.getElem_toList];rfl
  rw[e,hb];simp
theorem z90 {s:zA}(h:∀ k (hk:k<s.size),1<=k->z0x s[k].toNat=true):z8s s=true:=by
 unfold z8s;rw[ZB];intro c hc;obtain⟨i,hi,rfl⟩:=List.mem_iff_getElem.1 hc;rw[List.getElem_drop];rw[Zu] at hi;have hk:1+i<s.size:=by have:s.data.toList.length=s.size:=rfl;omega
 have e:s.data.toList[1+i]'(by have:s.data.toList.length=s.size:=rfl;omega)=s[1+i]:=by rw[Array.getElem_toList];rfl
 rw[e];exact h _ hk (by omega)
theorem z91 {a b:Int}(h:a=b):Ending.returned (zI a)=.returned (zI b):=by rw[h]
theorem z92 (s:zA)(w:zW):Calls prog 110 #[zS s] w fun e w'=>e=.returned (.bool (z8r s))/\w=w':=by
 go_enter func110,ntmps110;go_wp2_with (go_at_call 100;refine (Tryz.strings_HasPrefix _ _ _).mono ?_;rintro e w' ⟨rfl,rfl⟩)
 go_ret;exact⟨rfl,rfl⟩
theorem z93 (s:zA)(w:zW)(hs:s.size<=maxLen):
  Calls prog 164 #[zS s] w fun e w'=>e=.returned (zI (z8t s))/\w=w':=by
 have hsz:s.size<=9223372036854775807:=by unfold maxLen at hs;omega
 have HC:=hd_ (z1d s w hs);have HP:=hd_ (Tryz.strings_HasPrefix s ⟨#[42]⟩ w);clear hs;cases hc:z0z s with
 | true =>
  have HF:Hid (z8t s=1):=hd_ (by unfold z8t;rw[if_pos hc])
  rw[hc] at HC;clear hc;go_enter func164,ntmps164;go_wp2_with (go_at_call 101;refine HC.mono ?_;rintro e w' ⟨rfl,rfl⟩)
  go_ret;exact⟨z91 HF.symm,rfl⟩
 | false =>
  rw[hc] at HC;cases hp:Lib.hasPrefix s.data.toList [42] with
  | false =>
   have HF:Hid (z8t s=0):=hd_ (by unfold z8t z8r;rw[hc,hp];rfl)
   have hp':Lib.hasPrefix s.data.toList (⟨#[42]⟩:zA).data.toList=false:=hp;rw[hp'] at HP;clear hc hp hp';go_enter func164,ntmps164;go_wp2_with (first
    | (go_at_call 101;refine HC.mono ?_;rintro e w' ⟨rfl,rfl⟩)
    | (go_at_call 100;refine HP.mono ?_;rintro e w' ⟨rfl,rfl⟩))
   go_ret;exact⟨z91 HF.symm,rfl⟩
  | true =>
   have HT:Hid (z8t s=if z8s s then 2 else 0):=hd_ (by unfold z8t z8r;rw[hc,hp];rfl)
   have h1:1<=s.size:=by
    rcases ZU s.size with h0 | h0
    ·have:s.data.toList=[]:=Zt (by simpa using h0)
     rw[this] at hp;cases hp
    ·exact h0
   have hp':Lib.hasPrefix s.data.toList (⟨#[42]⟩:zA).data.toList=true:=hp;rw[hp'] at HP;clear hc hp hp';go_enter func164,ntmps164;go_wp2_with (first
    | (go_at_call 101;refine HC.mono ?_;rintro e w' ⟨rfl,rfl⟩)
    | (go_at_call 100;refine HP.mono ?_;rintro e w' ⟨rfl,rfl⟩))
   go_loop [3] (fun i=>∃ k:Nat,1<=k/\k<=s.size/\i=zI k/\Hid (∀ j (hj:j<s.size),1<=j->j<k->z0x s[j].toNat=true)) (fun i=>s.size - (intOf i).toNat)
   exact⟨1,Zd _,h1,rfl,fun j _ a b=>by omega⟩
   obtain⟨k,hk1,hk,rfl,HI⟩:=hrel;by_cases hlt:k<s.size
   ·cases hl:z0x s[k].toNat
    ·have HF:Hid (z8t s=0):=hd_ (by rw[HT.out,z8z hlt hk1 hl];rfl)
     have HL:=hd_ hl;clear HI;go_wp2_with (go_at_call 150;refine (z13 _ _).mono ?_;rintro e w' ⟨rfl,rfl⟩)
     go_ret;exact⟨z91 HF.symm,rfl⟩
    ·have HN:Hid (∀ j (hj:j<s.size),1<=j->j<k+1->z0x s[j].toNat=true):=hd_ (fun j hj a b=>by
      by_cases e:j=k
      ·subst e;exact hl
      ·exact HI j hj a (by omega))
     have HL:=hd_ hl;clear HI;go_wp2_with (go_at_call 150;refine (z13 _ _).mono ?_;rintro e w' ⟨rfl,rfl⟩)
     go_round
     exact⟨k+1,by omega,by omega,by go_num,HN⟩
     simp [intOf];omega
   ·have hke:k=s.size:=by omega
    have HF:Hid (z8t s=2):=hd_ (by rw[HT.out,z90 (fun j hj a=>HI.out j hj a (by omega))];rfl)
    clear HI hke;go_wp2
    go_ret;exact⟨z91 HF.symm,rfl⟩
theorem z94 {p:Pat}(h:p.kp.length=0):z8w p=30:=by unfold z8w;rw[if_pos (.inl h)]
theorem z95 {p:Pat}(h:p.kp.length=1)(hr:p.kr=false):z8w p=30:=by unfold z8w;rw[if_pos (.inr ⟨h,hr⟩)]
theorem z96 {p:Pat}(h:z8v p.kp=false):z8w p=30:=by
 unfold z8w;by_cases h1:p.kp.length=0\/(p.kp.length=1/\p.kr=false)
 ·rw[if_pos h1]
 ·rw[if_neg h1,if_pos h]
theorem z97 {p:Pat}(h1:¬(p.kp.length=0\/(p.kp.length=1/\p.kr=false)))(h:z8v p.kp=true):z8w p=if 12<p.kp.length then 31 else 0:=by
 unfold z8w;rw[if_neg h1,if_neg (by rw[h];simp)]
theorem z98 (s:zA):z8t s=0\/z8t s=1\/z8t s=2:=by
 unfold z8t;split
 ·exact .inr (.inl rfl)
 ·split
  ·split
   ·exact .inr (.inr rfl)
   ·exact .inl rfl
  ·exact .inl rfl
theorem z99 (p:Pat)(A:zP)(c:Nat)(w:zW)(hS:z20 w (zL A p.kp.length c) p.kp)(hz:∀ x∈p.kp,x.size<=maxLen):
  Calls prog 108 #[.agg #[zL A p.kp.length c,.bool p.kr]] w fun e w'=>e=.returned (zI (z8w p))/\zB w w':=by
 obtain⟨A',c',e',hcc,hmm,-⟩:=id hS;injection e' with e1 e2 e3
 subst e1 e3;unfold maxLen at hmm;have HS:=hd_ hS;have HZ:=hd_ hz;have HF:=hd_ (fun x (hx:x.size<=maxLen) X=>z93 x X hx);obtain⟨parts,rest⟩:=p;dsimp only at hcc hmm HS HZ |-
 have HE0:=hd_ (@z94 ⟨parts,rest⟩);have HE1:=hd_ (@z95 ⟨parts,rest⟩);have HEF:=hd_ (@z96 ⟨parts,rest⟩);have HEE:=hd_ (@z97 ⟨parts,rest⟩);have hB:=z0l w [zL A parts.length c,.bool rest] 56;have hA:zB w (w.alloc (zC #[zL A parts.length c,.bool rest] 56)):=zR;clear hS hz e2;go_enter func108,ntmps108;go_upto_region 1 with fail;generalize w.alloc (zC #[zL A parts.length c,.bool rest] 56)=W1 at hB hA |-;have d0:W1.cell? ⟨w.heap.size,0,none⟩=some (.slice A parts.length c):=hB.cell 0;have d1:W1.cell? ⟨w.heap.size,1,none⟩=some (.bool rest):=hB.cell 1;have HB:=hd_ hB;have HA:=hd_ hA;clear hB hA;by_cases h0:parts.length=0
 ·have q0:((parts.length:Int) == 0)=true:=by rw[beq_iff_eq];omega
  have HR:=hd_ (HE0 h0);clear h0;go_wp2_with fail;go_ret;exact⟨z91 HR.symm,HA⟩
 have q0:((parts.length:Int) == 0)=false:=by rw[beq_eq_false_iff_ne];omega
 have HN1:Hid (parts.length=1/\rest=false\/¬(parts.length=0\/(parts.length=1/\rest=false))):=hd_ (by
  by_cases h:parts.length=1/\rest=false
  ·exact .inl h
  ·exact .inr (fun hh=>by rcases hh with hh | hh;exact h0 hh;exact h hh))
 clear h0;rcases HN1.out with⟨h1,hr⟩ | hgood
 ·have q1:((parts.length:Int) == 1)=true:=by rw[beq_iff_eq];omega
  have HR:=hd_ (HE1 h1 hr);subst hr;clear h1 HN1;go_wp2_with fail;go_ret;exact⟨z91 HR.symm,HA⟩
 have HG:=hd_ hgood;clear HN1 hgood;go_cut [19] (fun v wx=>v=.bool false/\wx=W1)
 case first =>
  by_cases h1:parts.length=1
  ·have q1:((parts.length:Int) == 1)=true:=by rw[beq_iff_eq];omega
   have hr:rest=true:=by
    cases rest with
    | true=>rfl
    | false=>exact absurd (.inr ⟨h1,rfl⟩) HG.out
   subst hr;clear h1;go_wp2_with fail;go_meet
   exact⟨rfl,rfl⟩
  ·have q1:((parts.length:Int) == 1)=false:=by rw[beq_eq_false_iff_ne];omega
   clear h1;go_wp2_with fail;go_meet
   exact⟨rfl,rfl⟩
 case rest =>
  obtain⟨rfl,rfl⟩:=hcut;clear q0;go_wp2_with fail;go_loop [23] (fun i=>∃ k:Nat,k<=parts.length/\i=zI k/\Hid (∀ j (hj:j<parts.length),j<k->z8u j parts[j]=true)) (fun i=>parts.length - (intOf i).toNat)
  exact⟨0,Zg _,rfl,fun j _ a=>by omega⟩
  obtain⟨k,hk,rfl,HI⟩:=hrel;by_cases hlt:k<parts.length
  ·obtain⟨ad,rfl,hab,x0⟩:=z20.at_ (HS.out.kw HA.out) hlt;have HX:=hd_ (HF parts[k] (HZ _ (Za hlt)));have HNO:=hd_ (fun h=>HEF (z8x hlt h));have HYS:Hid (z8u k parts[k]=true->∀ j (hj:j<parts.length),j<k+1->z8u j parts[j]=true):=hd_ (fun h j hj a=>by
    by_cases e:j=k
    ·subst e;exact h
    ·exact HI j hj (by omega))
   have HPO:Hid (z8u k parts[k]=(decide (z8t parts[k]≠0) && !(decide (k=0) && decide (z8t parts[k]=2)))):=hd_ rfl;have hfc:=z98 parts[k];generalize parts[k]=x at x0 HX HNO HYS HPO hfc;generalize z8t x=f at HX HPO hfc;clear HI;rcases hfc with rfl | rfl | rfl
   ·have HR:=hd_ (HNO (by rw[HPO.out];rfl))
    go_wp2_with (go_at_call 164;refine (HX _).mono ?_;rintro e w' ⟨rfl,rfl⟩)
    go_ret;exact⟨z91 HR.symm,HA⟩
   ·have HR:=hd_ (HYS (by rw[HPO.out];simp))
    go_wp2_with (go_at_call 164;refine (HX _).mono ?_;rintro e w' ⟨rfl,rfl⟩)
    go_round
    exact⟨k+1,by omega,by go_num,HR⟩
    simp [intOf];omega
   ·by_cases hk0:k=0
    ·have HR:=hd_ (HNO (by rw[HPO.out,hk0];rfl))
     have qk:((k:Int) == 0)=true:=by rw[beq_iff_eq];omega
     have HK:=hd_ hk0;clear hk0;go_wp2_with (go_at_call 164;refine (HX _).mono ?_;rintro e w' ⟨rfl,rfl⟩)
     go_ret;exact⟨z91 HR.symm,HA⟩
    ·have HR:=hd_ (HYS (by rw[HPO.out];simp [hk0]))
     have qk:((k:Int) == 0)=false:=by rw[beq_eq_false_iff_ne];omega
     clear hk0;go_wp2_with (go_at_call 164;refine (HX _).mono ?_;rintro e w' ⟨rfl,rfl⟩)
     go_round
     exact⟨k+1,by omega,by go_num,HR⟩
     simp [intOf];omega
  ·have HR:=hd_ (HEE HG (z8y (fun j hj=>HI j hj (by omega))))
   have hge:¬((k:Int)<(parts.length:Int)):=by omega
   clear HI;by_cases h12:12<parts.length
   ·have q12:decide ((12:Int)<(parts.length:Int))=true:=by simp;omega
    rw[if_pos h12] at HR;clear h12;go_wp2_with fail;go_ret;exact⟨z91 HR.symm,HA⟩
   ·have q12:decide ((12:Int)<(parts.length:Int))=false:=by simp;omega
    rw[if_neg h12] at HR;clear h12;go_wp2_with fail;go_ret;exact⟨z91 HR.symm,HA⟩
def hasReg (n:Nat):Code->Bool
 | .region i _ _=>i == n
 | .seq a b=>hasReg n a || hasReg n b
 | .cond _ a b=>hasReg n a || hasReg n b
 | .block _ a=>hasReg n a
 | .loop a=>hasReg n a
 | _=>false
def tailAt (n:Nat):Code->Option Code
 | .seq a b=>if hasReg n a then some (.seq a b) else tailAt n b
 | c=>if hasReg n c then some c else none
