/- A part. -/
import Derived.Test.YtlnjaagijaadmaaGreatDoorMxB0
import Derived.Test.YtlnjaagijaadmaaGreatDoorRows
import Derived.WalkKit
import Derived.WalkSpells
import Derived.WalkLawsBesides
import Derived.Lib.Hide
import Derived.Deep.QuietTactic
import Derived.BigQuiet
import Derived.Maps.AppendAt
import Derived.OwnWalkIn
import Derived.Lib.AppendStr
set_option linter.unusedVariables false
set_option linter.unusedSimpArgs false
namespace Go.Proofs.YtlnjaagijaadmaaGreatDoor
open Go.RowKit
theorem hd_ {p:Prop}(h:p):Hid p:=Lib.hid h
theorem z00 (a:Addr)(n:Nat):(a.add n).block=a.block:=by unfold Addr.add;split <;> rfl
theorem z01 (a:Addr)(i j:Nat):(a.add i).add j=a.add (i+j):=by
 unfold Addr.add;by_cases hi:i=0 <;> by_cases hj:j=0 <;> simp [hi,hj,Nat.add_assoc]
theorem z02 (a:Addr)(j:Nat):(⟨a.block,a.off+(j+1),none⟩:Addr)=a.add (j+1):=by unfold Addr.add;rw[if_neg (by omega)]
def Row (w:zW)(size:Nat)(v:zV)(n:Nat)(xs:List zV):Prop:=
 ∃ A c,v=zL A n c/\n<=c/\c<=maxLen/\xs.length=n * size/\(A=none->c=0) /\
  (0<n->∃ ad,A=some ad/\ad.block<w.heap.size/\∀ j u,xs[j]? = some u->w.cell? (ad.add j)=some u)
theorem z03 {w:zW}{a:Addr}{u:zV}(h:w.cell? a=some u):a.block<w.heap.size:=World.block_lt_of_cell? w a h
theorem z04 {w w':zW}{B:Nat}{a:Addr}{u:zV}(h:w.cell? a=some u)(hb:Below B w w')(ha:a.block<B):w'.cell? a=some u:=(hb.cell ha).trans h
section
variable {w w' : zW} {size n : Nat} {v : zV} {xs : List zV}
theorem Row.keep (h:Row w size v n xs)(hs:w.heap.size<=w'.heap.size)(hk:∀ p:Addr,p.block<w.heap.size->w'.cell? p=w.cell? p):Row w' size v n xs:=by
 obtain⟨A,c,rfl,hc,hm,hl,h0,hx⟩:=h;refine⟨A,c,rfl,hc,hm,hl,h0,fun hn=>?_⟩;obtain⟨ad,e,hb,hcell⟩:=hx hn;exact⟨ad,e,by omega,fun j u hu=>(hk _ (by rw[z00];exact hb)).trans (hcell j u hu)⟩
theorem Row.kw (h:Row w size v n xs)(hb:zB w w'):Row w' size v n xs:=h.keep hb.size fun _ hp=>hb.cell hp
theorem Row.alloc (h:Row w size v n xs)(o:Obj):Row (w.alloc o) size v n xs:=h.keep (by simp) fun p hp=>World.cell?_alloc_lt w o p hp
theorem Row.drew (h:Row w size v n xs):Row w.drew size v n xs:=h
theorem Row.drewN (h:Row w size v n xs)(k:Nat):Row (w.drewN k) size v n xs:=h
theorem Row.nil_ (w:zW)(size:Nat):Row w size (zL none 0 0) 0 []:=⟨none,0,rfl,Zd _,by simp [maxLen],by simp,fun _=>rfl,fun h=>absurd h (by omega)⟩
theorem Row.len (h:Row w size v n xs):xs.length=n * size:=by obtain⟨A,c,rfl,hc,hm,hl,h0,hx⟩:=h;exact hl
theorem Row.cells (h:Row w size v n xs)(hn:0<n):∃ ad c,v=zL (some ad) n c/\n<=c/\c<=maxLen/\ad.block<w.heap.size/\∀ j u,xs[j]? = some u->w.cell? (ad.add j)=some u:=by
 obtain⟨A,c,rfl,hc,hm,hl,h0,hx⟩:=h;obtain⟨ad,rfl,hb,hcell⟩:=hx hn;exact⟨ad,c,rfl,hc,hm,hb,hcell⟩
theorem Row.slice {A:zP}{c lo hi:Nat}(h:Row w size (zL A n c) n xs)(h1:lo<=hi)(h2:hi<=n):
  Row w size (zL (if c=lo then A else A.map (·.add (lo * size))) (hi - lo) (c - lo)) (hi - lo) ((xs.drop (lo * size)).take ((hi - lo) * size)):=by
 obtain⟨A',c',e,hc,hm,hl,h0,hx⟩:=h;injection e with e1 e2 e3
 subst e1 e3;refine⟨_,_,rfl,by omega,by omega,?_,?_,fun hn=>?_⟩
 ·rw[ZK,Zu,hl,<- Nat.sub_mul];exact Nat.min_eq_left (Ye _ (by omega))
 ·intro hA;split at hA
  ·omega
  ·have:=h0 (by simpa using hA);omega
 ·obtain⟨ad,rfl,hb,hcell⟩:=hx (by omega)
  rw[if_neg (by omega)]
  refine⟨ad.add (lo * size),rfl,by rw[z00];exact hb,fun j u hu=>?_⟩
  rw[z01];refine hcell _ u ?_;rw[List.getElem?_take] at hu;split at hu
  ·rwa [List.getElem?_drop] at hu
  ·cases hu
theorem Row.of_own {base:Nat}{e:TypeId}(h:w.ownsRow base e size v n xs):Row w size v n xs:=by
 have hl:=h.1;rcases h.2 with⟨rfl,rfl⟩ | ⟨g,cap,cur,rfl,_,hg,hnc,hcm,_,_⟩
 ·exact⟨none,0,rfl,Zd _,by simp [maxLen],hl,fun _=>rfl,fun h=>absurd h (by omega)⟩
 ·exact⟨_,cap,rfl,hnc,hcm,hl,fun h=>(by cases h),fun _=>⟨_,rfl,(ZC.1 hg).1,h.cells (g:=g) rfl⟩⟩
end
def Bytes (w:zW)(v:zV)(l:List UInt8):Prop:=Row w 1 v l.length (l.map fun b=>.int .u8 b.toNat)
def z20 (w:zW)(v:zV)(l:List zA):Prop:=Row w 1 v l.length (l.map .string)
def z05 (l:List (zA×zA)):List zV:=l.flatMap fun p=>[zS p.1,zS p.2]
def z06 (w:zW)(v:zV)(l:List (zA×zA)):Prop:=Row w 2 v l.length (z05 l)
def z07 (l:List (Nat×Nat)):List zV:=l.flatMap fun p=>[zI p.1,zI p.2]
def z08 (w:zW)(v:zV)(l:List (Nat×Nat)):Prop:=Row w 2 v l.length (z07 l)
def z09 (w:zW)(v:zV)(l:List Nat):Prop:=Row w 1 v l.length (l.map fun(n:Nat)=>zI n)
theorem z0a {α:Type}(f g:α->zV)(l:List α)(i:Nat)(x:α)(h:l[i]? = some x):
  (l.flatMap fun p=>[f p,g p])[i * 2]? = some (f x)/\(l.flatMap fun p=>[f p,g p])[i * 2+1]? = some (g x):=by
 induction l generalizing i with
 | nil=>simp at h
 | cons y l ih =>
  cases i with
  | zero=>simp at h;subst h;simp
  | succ i =>
   have h':=ih i (by simpa using h)
   simp only[ZG]
   have e1:(i+1) * 2=(i * 2)+2:=by omega
   have e2:(i+1) * 2+1=(i * 2+1)+2:=by omega
   rw[e2,e1];simpa using h'
section
variable {w w' : zW} {v : zV}
theorem Bytes.kw {l:List UInt8}(h:Bytes w v l)(hb:zB w w'):Bytes w' v l:=Row.kw h hb
theorem Bytes.alloc {l:List UInt8}(h:Bytes w v l)(o:Obj):Bytes (w.alloc o) v l:=Row.alloc h o
theorem Bytes.drewN {l:List UInt8}(h:Bytes w v l)(k:Nat):Bytes (w.drewN k) v l:=h
theorem z20.kw {l:List zA}(h:z20 w v l)(hb:zB w w'):z20 w' v l:=Row.kw h hb
theorem z20.alloc {l:List zA}(h:z20 w v l)(o:Obj):z20 (w.alloc o) v l:=Row.alloc h o
theorem z20.drewN {l:List zA}(h:z20 w v l)(k:Nat):z20 (w.drewN k) v l:=h
theorem z06.kw {l:List (zA×zA)}(h:z06 w v l)(hb:zB w w'):z06 w' v l:=Row.kw h hb
theorem z06.alloc {l:List (zA×zA)}(h:z06 w v l)(o:Obj):z06 (w.alloc o) v l:=Row.alloc h o
theorem z06.drewN {l:List (zA×zA)}(h:z06 w v l)(k:Nat):z06 (w.drewN k) v l:=h
theorem z08.kw {l:List (Nat×Nat)}(h:z08 w v l)(hb:zB w w'):z08 w' v l:=Row.kw h hb
theorem z08.alloc {l:List (Nat×Nat)}(h:z08 w v l)(o:Obj):z08 (w.alloc o) v l:=Row.alloc h o
theorem z08.drewN {l:List (Nat×Nat)}(h:z08 w v l)(k:Nat):z08 (w.drewN k) v l:=h
theorem z09.kw {l:List Nat}(h:z09 w v l)(hb:zB w w'):z09 w' v l:=Row.kw h hb
theorem z09.alloc {l:List Nat}(h:z09 w v l)(o:Obj):z09 (w.alloc o) v l:=Row.alloc h o
theorem z09.drewN {l:List Nat}(h:z09 w v l)(k:Nat):z09 (w.drewN k) v l:=h
theorem Row.at_ {size n k c:Nat}{A:zP}{xs:List zV}(h:Row w size (zL A n c) n xs)(hk:k<n):∃ ad,A=some ad/\ad.block<w.heap.size/\∀ j u,xs[k * size+j]? = some u->w.cell? (ad.add (k * size+j))=some u:=by
 obtain⟨ad,c',e,h1,h2,h3,h4⟩:=Row.cells h (by omega)
 injection e with e1 e2 e3
 exact⟨ad,e1,h3,fun j u hu=>h4 _ u hu⟩
theorem Bytes.at_ {l:List UInt8}{k c:Nat}{A:zP}(h:Bytes w (zL A l.length c) l)(hk:k<l.length):∃ ad,A=some ad/\ad.block<w.heap.size/\w.cell? (ad.add k)=some (.int .u8 (l[k].toNat)):=by
 obtain⟨ad,e,hb,h4⟩:=Row.at_ h hk;exact⟨ad,e,hb,by have:=h4 0 _ (by simp [hk];rfl);simpa using this⟩
theorem Bytes.slice {l:List UInt8}{A:zP}{c lo hi:Nat}(h:Bytes w (zL A l.length c) l)(h1:lo<=hi)(h2:hi<=l.length):
  Bytes w (zL (if c=lo then A else A.map (·.add lo)) (hi - lo) (c - lo)) ((l.drop lo).take (hi - lo)):=by
 have h':=Row.slice h h1 h2;unfold Bytes;rw[ZK,Zu,Nat.min_eq_left (by omega),List.map_take,List.map_drop]
 simpa using h'
theorem Bytes.sub {l:List UInt8}{ad:Addr}{c lo hi:Nat}(h:Bytes w (zL (some ad) l.length c) l)(h1:lo<=hi)(h2:hi<=l.length)(h3:lo<c):
  Bytes w (zL (some (ad.add lo)) (hi - lo) (c - lo)) ((l.drop lo).take (hi - lo)):=by
 have h':=h.slice h1 h2;rwa [if_neg (by omega)] at h'
theorem z20.at_ {l:List zA}{k c:Nat}{A:zP}(h:z20 w (zL A l.length c) l)(hk:k<l.length):∃ ad,A=some ad/\ad.block<w.heap.size/\w.cell? (ad.add k)=some (zS l[k]):=by
 obtain⟨ad,e,hb,h4⟩:=Row.at_ h hk;exact⟨ad,e,hb,by have:=h4 0 _ (by simp [hk];rfl);simpa using this⟩
theorem z09.at_ {l:List Nat}{k c:Nat}{A:zP}(h:z09 w (zL A l.length c) l)(hk:k<l.length):∃ ad,A=some ad/\ad.block<w.heap.size/\w.cell? (ad.add k)=some (zI l[k]):=by
 obtain⟨ad,e,hb,h4⟩:=Row.at_ h hk;exact⟨ad,e,hb,by have:=h4 0 _ (by simp [hk];rfl);simpa using this⟩
theorem z06.at_ {l:List (zA×zA)}{k c:Nat}{A:zP}(h:z06 w (zL A l.length c) l)(hk:k<l.length):
  ∃ ad,A=some ad/\ad.block<w.heap.size/\w.cell? (ad.add (k * 2))=some (zS l[k].1)/\w.cell? ⟨(ad.add (k * 2)).block,(ad.add (k * 2)).off+1,none⟩=some (zS l[k].2):=by
 obtain⟨ad,e,hb,h4⟩:=Row.at_ h hk;have hg:=z0a (fun p:zA×zA=>zS p.1) (fun p=>zS p.2) l k l[k] (by simp [hk])
 exact⟨ad,e,hb,h4 0 _ hg.1,by rw[z02,z01];exact h4 1 _ hg.2⟩
theorem z08.at_ {l:List (Nat×Nat)}{k c:Nat}{A:zP}(h:z08 w (zL A l.length c) l)(hk:k<l.length):
  ∃ ad,A=some ad/\ad.block<w.heap.size/\w.cell? (ad.add (k * 2))=some (zI l[k].1)/\w.cell? ⟨(ad.add (k * 2)).block,(ad.add (k * 2)).off+1,none⟩=some (zI l[k].2):=by
 obtain⟨ad,e,hb,h4⟩:=Row.at_ h hk;have hg:=z0a (fun p:Nat×Nat=>zI p.1) (fun p=>zI p.2) l k l[k] (by simp [hk])
 exact⟨ad,e,hb,h4 0 _ hg.1,by rw[z02,z01];exact h4 1 _ hg.2⟩
end
theorem z0b {P:Program}{w:zW}{t e:TypeId}{size n c lo:Nat}{x:Int}{kx:IntKind}{A:zP}{xs:List zV}(ht:P.underlying t=some (.slice e))(hs:∀ w,(sizeOf e).run P w=.ok size w)
  (h:Row w size (zL A n c) n xs) (h1:lo<=n) (hx:x=lo):
  ∃ A' c',(Instr.sliceAt t (zL A n c) (some (.int kx x)) none none).run P w=.ok (zL A' (n - lo) c') w/\Row w size (zL A' (n - lo) c') (n - lo) (xs.drop (lo * size)):=by
 subst hx;have he:P.elem t=e:=by simp [Program.elem,ht]
 have hr:=Row.slice h h1 (Zd _);rw[ZQ (by rw[Zu,h.len,<- Nat.sub_mul];exact Zd _)] at hr
 refine⟨_,_,?_,hr⟩;have ht':P.underlying t=some (.slice (P.elem t)):=by rw[he];exact ht
 rw[run_sliceAt_slice w t _ _ _ _ ht',run_slice_l w t A n c ht' _ _ (by omega) (by omega),he,hs]
 simp [Result.andThen,sliced]
def cvtA (w:zW):Addr:=⟨w.heap.size,0,none⟩
def z0c (w:zW)(s:zA)(e:TypeId):Nat:=grownCap w s.size 0 e
def z21 (w:zW)(s:zA)(e:TypeId):zW:=
 w.drew.alloc (.cells (bytesRow s (z0c w s e)) e ((bytesRow s (z0c w s e)).size,(bytesRow s (z0c w s e)).size+1))
theorem run_cvt {P:Program}(w:zW)(src dst e:TypeId)(s:zA)(hs:P.underlying src=some .string)(hd:P.underlying dst=some (.slice e))(he:P.underlying e=some (.int .u8)):
  (convert src dst (zS s)).run P w=.ok (zL (some (cvtA w)) s.size (z0c w s e)) (z21 w s e):=run_bytes_of_string w src dst e s hs hd he
theorem z0d (w:zW)(s:zA)(e:TypeId):zB w (z21 w s e):=(Zb _ _).drew.alloc (by simp) _
def z0e (P:Program)(t e:TypeId)(size bytes:Nat):Prop:=
 ∃ i z,P.underlying t=some (.slice e)/\P.info? e=some i/\i.zero=some z/\i.size=size/\i.bytes=bytes/\z.cells.size=size/\0<size
theorem z0f {P:Program}{t e:TypeId}{z:zV}{size bytes:Nat}(ht:P.underlying t=some (.slice e))(h:(P.info? e).map (fun i=>(i.zero,i.size,i.bytes))=some (some z,size,bytes))
  (hz:z.cells.size=size) (hs:0<size):z0e P t e size bytes:=by
 obtain⟨i0,hi,hz0,hz1,hz2⟩:=info_parts h;exact⟨i0,z,ht,hi,hz0,hz1,hz2,hz,hs⟩
theorem z0g {base:Nat}{w0 W w':zW}{e:TypeId}{size n:Nat}{v:zV}{xs:List zV}(hbl:Below base w0 W)(hown:W.ownsRow base e size v n xs)(hb:base<=W.heap.size)(hg:W.grownBy w' v.ownBlock):Below base w0 w':=
 hbl.grown hg hb (fun k e=>(hown.lt k e).1)
theorem z0h {P:Program}{W:zW}{t ty e:TypeId}{size bytes base:Nat}(he:z0e P t e size bytes){v:zV}{n:Nat}{xs:List zV}(hown:W.ownsRow base e size v n xs)
  {u:zV} {m:Nat} {news:List zV} (hr:Row W size u m news) (h1:∀ u∈news,u.oneCell'=true) (hbytes:(n+m) * bytes<=140737488355328) (h63:n+m<=maxLen) (hbase:base<=W.heap.size):
  ∃ A' c' w',(Builtin.append_ #[t,t] ty #[v,u]).run P W=.ok (zL A' (n+m) c') w'/\w'.ownsRow base e size (zL A' (n+m) c') (n+m) (xs++news)/\W.grownBy w' v.ownBlock /\
   ((zL A' (n+m) c').ownBlock=v.ownBlock\/(zL A' (n+m) c').ownBlock=some W.heap.size):=by
 obtain⟨i,z,ht,hi,hz,hsize,hby,hzs,hsz⟩:=he;have fin:∀ v' w',(Builtin.append_ #[t,t] ty #[v,u]).run P W=.ok v' w'->w'.ownsRow base e size v' (n+m) (xs++news)->W.grownBy w' v.ownBlock->(v'.ownBlock=v.ownBlock\/v'.ownBlock=some W.heap.size) ->
   ∃ A' c' w',(Builtin.append_ #[t,t] ty #[v,u]).run P W=.ok (zL A' (n+m) c') w'/\w'.ownsRow base e size (zL A' (n+m) c') (n+m) (xs++news)/\W.grownBy w' v.ownBlock /\
   ((zL A' (n+m) c').ownBlock=v.ownBlock\/(zL A' (n+m) c').ownBlock=some W.heap.size):=by
  intro v' w' hrun h2 h3 h4;have:∃ A' c',v'=zL A' (n+m) c':=by
   rcases h2.2 with⟨e1,e2⟩ | ⟨g,cap,cur,e1,_⟩
   ·exact⟨none,0,by rw[e1,e2]⟩
   ·exact⟨_,cap,e1⟩
  obtain⟨A',c',rfl⟩:=this;exact⟨A',c',w',hrun,h2,h3,h4⟩
 obtain⟨A,c,rfl,hc,hm,hl,h00,hx⟩:=hr;rcases A with _ | ad
 ·have h0:m=0:=by
   rcases ZU m with h0 | h0
   ·exact h0
   ·obtain⟨ad,h,_⟩:=hx h0;cases h
  subst h0;have hn:news=[]:=Zt (by simpa using hl)
  subst hn;refine fin v W ?_ (by simpa using hown) ⟨rfl,rfl,rfl,Zd _,fun _ _ _=>rfl⟩ (.inl rfl)
  rcases hown.2 with⟨rfl,rfl⟩ | ⟨g,cap,cur,rfl,_,_,hnc,_⟩
  ·simp [Builtin.append_,run_underlying ht,sizeOf,typeInfo,hi,Builtin.lenOf,Builtin.firstCells]
  ·simp [Builtin.append_,run_underlying ht,sizeOf,typeInfo,hi,Builtin.lenOf,Builtin.firstCells,hnc,storeCells]
 ·have hcells:∀ j u,news[j]? = some u->W.cell? (ad.add j)=some u:=by
   intro j u hu;rcases ZU m with h0 | h0
   ·have hn:news=[]:=Zt (by rw[hl,h0];simp)
    subst hn;simp at hu
   ·obtain⟨ad',h,_,hc⟩:=hx h0;injection h with h
    subst h;exact hc j u hu
  obtain⟨v',w',hrun,h2,h3,_,h5⟩:=run_append_own_at (P:=P) W base t ty e i z size bytes ht hi hz hsize hby hzs hsz v n xs hown ad m c news hl hcells h1 h63 hbytes hbase;exact fin v' w' hrun h2 h3 h5
theorem z0i (W:zW)(cs:List zV)(t:TypeId)(size m:Nat)(hl:cs.length=m * size)(hm:m<=maxLen)(g:Nat)(hg:g=W.heap.size):Row (W.alloc (.cells cs.toArray t)) size (zL (some ⟨g,0,none⟩) m m) m cs:=by
 subst hg;refine⟨_,_,rfl,Zd _,hm,hl,fun h=>(by cases h),fun _=>⟨_,rfl,by simp,fun j u hu=>?_⟩⟩
 have hadd:(⟨W.heap.size,0,none⟩:Addr).add j=⟨W.heap.size,j,none⟩:=by unfold Addr.add;split <;> simp_all
 rw[hadd,World.cell?_alloc_mark];simpa using hu
theorem z0j {P:Program}{W:zW}{ops:Array Oper}{rest:List Oper}{o:Oper}{a:Act}{Q:Exit->Act->zW->Prop}(hgd:o.guard=none){s x:Operand}{t:TypeId}
  (ho:o.op=.call { callee:=.builtin .append,args:=#[s,x],argTypes:=#[t,t] })
  {e:TypeId} {size bytes base:Nat} (he:z0e P t e size bytes) {v:zV} {n:Nat} {xs:List zV} (hown:W.ownsRow base e size v n xs) (hs:a.eval s=v)
  {u:zV} {m:Nat} {news:List zV} (hr:Row W size u m news) (hx:a.eval x=u) (h1:∀ u∈news,u.oneCell'=true) (hbytes:(n+m) * bytes<=140737488355328) (h63:n+m<=maxLen) (hbase:base<=W.heap.size)
  (h:∀ A' c' w',w'.ownsRow base e size (zL A' (n+m) c') (n+m) (xs++news)->W.grownBy w' v.ownBlock ->
   ((zL A' (n+m) c').ownBlock=v.ownBlock\/(zL A' (n+m) c').ownBlock=some W.heap.size)->wpList P ops Q rest (a.put o.dst (zL A' (n+m) c')) w'):wpList P ops Q (o :: rest) a W:=by
 obtain⟨A',c',w',hrun,h2,h3,h4⟩:=z0h (ty:=o.type) he hown hr h1 hbytes h63 hbase;refine wpList_plain hgd fun K hK=>?_;unfold Oper.wp execOp;simp only[ho,resolve,invoke,builtin,Sem.run_bind,Sem.run_pure,Result.andThen_ok,List.map_toArray,ZN,List.map_nil,hs,hx,hrun]
 exact hK _ _ (h A' c' w' h2 h3 h4)
theorem z0k {P:Program}{W w0:zW}{ops:Array Oper}{rest:List Oper}{o:Oper}{a:Act}{Q:Exit->Act->zW->Prop}(hgd:o.guard=none){s x:Operand}{t:TypeId}
  (ho:o.op=.call { callee:=.builtin .append,args:=#[s,x],argTypes:=#[t,t] })
  {e:TypeId} {size bytes base:Nat} (he:z0e P t e size bytes) {v:zV} {n:Nat} {xs:List zV} (hown:W.ownsRow base e size v n xs) (hs:a.eval s=v)
  {u:zV} {m:Nat} {news:List zV} (hr:Row W size u m news) (hx:a.eval x=u) (hbl:Below base w0 W) (hbase:base<=W.heap.size) (h1:∀ u∈news,u.oneCell'=true) (hbytes:(n+m) * bytes<=140737488355328) (h63:n+m<=maxLen)
  (h:∀ A' c' w',w'.ownsRow base e size (zL A' (n+m) c') (n+m) (xs++news)->Below base w0 w'->wpList P ops Q rest (a.put o.dst (zL A' (n+m) c')) w'):wpList P ops Q (o :: rest) a W:=
 z0j hgd ho he hown hs hr hx h1 hbytes h63 hbase fun A' c' w' h2 h3 _=>h A' c' w' h2 (z0g hbl hown hbase h3)
def Blk (w:zW)(g:Nat)(e:TypeId)(cs:List zV):Prop:=w.heap[g]? = some (.cells cs.toArray e (0,0))
section
variable {w w' : zW} {g : Nat} {e : TypeId} {cs : List zV}
theorem z0l (w:zW)(cs:List zV)(e:TypeId):Blk (w.alloc (.cells cs.toArray e)) w.heap.size e cs:=heap_alloc_new w _
theorem Blk.lt (h:Blk w g e cs):g<w.heap.size:=(ZC.1 h).1
theorem Blk.cell (h:Blk w g e cs)(i:Nat):w.cell? ⟨g,i,none⟩=cs[i]?:=by
 rw[cell_of_row w g i cs.toArray e (0,0) h];simp
theorem Blk.frozen (h:Blk w g e cs)(i:Nat):w.frozen? ⟨g,i,none⟩=false:=by
 unfold Blk at h;simp [World.frozen?,h]
theorem Blk.set_ (h:Blk w g e cs)(i:Nat)(u:zV):Blk (w.setCell ⟨g,i,none⟩ u) g e (cs.set i u):=by
 unfold Blk at h |-
 simp [World.setCell,Array.getElem?_modify,h]
theorem Blk.far (h:Blk w g e cs){p:Addr}(hp:p.block≠g)(u:zV):Blk (w.setCell p u) g e cs:=(Ya w p u g (fun e=>hp e.symm)).trans h
theorem Blk.alloc (h:Blk w g e cs)(o:Obj):Blk (w.alloc o) g e cs:=(Below.heap_alloc w o g h.lt).trans h
theorem Blk.kw {B:Nat}(h:Blk w g e cs)(hb:Below B w w')(hg:g<B):Blk w' g e cs:=(hb.block g hg).trans h
theorem Blk.grown {row:Option Nat}(h:Blk w g e cs)(hb:w.grownBy w' row)(hg:some g≠row):Blk w' g e cs:=(hb.block g h.lt hg).trans h
theorem Blk.drewN (h:Blk w g e cs)(n:Nat):Blk (w.drewN n) g e cs:=h
theorem Blk.row (h:Blk w g e cs){size n:Nat}(hl:cs.length=n * size)(hm:n<=maxLen):Row w size (zL (some ⟨g,0,none⟩) n n) n cs:=by
 refine⟨_,_,rfl,Zd _,hm,hl,fun h=>(by cases h),fun _=>⟨_,rfl,h.lt,fun j u hu=>?_⟩⟩
 have hadd:(⟨g,0,none⟩:Addr).add j=⟨g,j,none⟩:=by unfold Addr.add;split <;> simp_all
 rw[hadd,h.cell];exact hu
end
def mkL (zs:List zV)(n:Nat):List zV:=(List.replicate n zs).flatten
theorem z0m (zs:List zV)(n:Nat):(mkL zs n).length=n * zs.length:=by simp [mkL]
theorem mkL_get (zs:List zV)(n i:Nat)(h:i<n * zs.length):(mkL zs n)[i]? = zs[i % zs.length]?:=by
 induction n generalizing i with
 | zero=>omega
 | succ n ih =>
  simp only[mkL,List.replicate_succ,List.flatten_cons] at ih |-
  by_cases hi:i<zs.length
  ·rw[List.getElem?_append_left hi,Nat.mod_eq_of_lt hi]
  ·rw[List.getElem?_append_right (by omega),ih _ (by rw[Nat.succ_mul] at h;omega),<- Nat.mod_eq_sub_mod (by omega)]
theorem made_eq (zs:List zV)(hz:0<zs.length)(n:Nat):madeCells zs.toArray (n * zs.length)=(mkL zs n).toArray:=by
 apply Array.ext
 ·simp [size_madeCells,z0m]
 ·intro i h1 h2;rw[size_madeCells] at h1;have hlt:i % zs.length<zs.length:=Nat.mod_lt _ hz;have:=mkL_get zs n i h1;rw[Ze (by rw[z0m];exact h1),Ze hlt] at this
  injection this with this
  simp only[madeCells,Array.getElem_map,Array.getElem_range,List.size_toArray,List.getElem_toArray]
  rw[this,getElem!_pos zs.toArray (i % zs.length) (by simpa using hlt)];simp
theorem run_mk {P:Program}{t e:TypeId}{z:zV}{size bytes:Nat}(ht:P.underlying t=some (.slice e))(h:(P.info? e).map (fun i=>(i.zero,i.size,i.bytes))=some (some z,size,bytes))
  (hs:0<size) {zs:List zV} (hz:z.cells=zs.toArray) (hzl:zs.length=size) (n:Nat) (kl kc:IntKind) (hb:bytes * n<=281474976710656) (hn:n<=9223372036854775807) (w:zW):
  (Instr.makeSlice t (.int kl (n:Int)) (.int kc (n:Int))).run P w=.ok (zL (some ⟨w.heap.size,0,none⟩) n n) (w.alloc (.cells (mkL zs n).toArray e)):=by
 obtain⟨i0,hi,hz0,hz1,hz2⟩:=info_parts h;subst hzl;have hb':(i0.bytes:Int) * (n:Int)<=281474976710656:=by
  have h':((bytes * n:Nat):Int)<=281474976710656:=by omega
  rw[hz2];rwa [Int.natCast_mul] at h'
 have hr:=run_make (P:=P) w t e i0 z ht hi hz0 kl kc n n (by omega) (by omega) hb' (by omega)
 simp only[Int.toNat_natCast,hz1,hz,made_eq zs hs] at hr
 exact hr
section
variable {κ : Type} [BEq κ]
def z1v (m:List (κ×zV))(k:κ):Option zV:=(m.find? (k == ·.1)).map (·.2)
def z1w:List (κ×zV)->κ->zV->List (κ×zV)
 | [],k,v=>[(k,v)]
 | p :: m,k,v=>if k == p.1 then (k,v) :: m else p :: z1w m k v
def z1x (es:List MapEntry):List (zV×zV):=es.map fun e=>(e.key,e.val)
structure z1y (P:Program)(k:TypeId)(kv:κ->zV):Prop where
 find:∀(x:κ) (es:List MapEntry) (m:List (κ×zV)) (w:zW),z1x es=m.map (fun p=>(kv p.1,p.2)) ->
  (Instr.findKey k (kv x) es).run P w=.ok (((m.zipIdx 0).find? (fun q=>x == q.1.1)).map fun q=>(q.2,q.1.2)) w
 check:∀(b:Bool) (a:κ) (w:zW),(Instr.checkKey b 10000 k (kv a)).run P w=.ok () w
 bits:∀ a b,(a == b)=true->Instr.sameBits 10000 (kv b) (kv a)=true
end
section
variable {κ : Type} {kv : κ -> zV} {w w' : zW} {B : Nat} {m : List (κ × zV)}
def z1z (es:List MapEntry)(clock:Nat):Prop:=(∀ e∈es,e.born<clock)/\(es.map (·.born)).Nodup
def z23 (kv:κ->zV)(w:zW)(B:Nat)(m:List (κ×zV)):Prop:=
 ∃ es clock,w.heap[B]? = some (.map es clock)/\z1x es.toList=(m.map fun p=>(kv p.1,p.2))/\z1z es.toList clock
theorem z1z.push {es:List MapEntry}{clock:Nat}(h:z1z es clock)(k v:zV):z1z (es++[{ key:=k,val:=v,born:=clock }]) (clock+1):=by
 refine⟨fun e he=>?_,?_⟩
 ·rcases Zy.1 he with he | he
  ·have:=h.1 e he;omega
  ·have:e={ key:=k,val:=v,born:=clock }:=by simpa using he
   rw[this];simp
 ·rw[Zs,List.nodup_append];refine⟨h.2,by simp,?_⟩
  intro a ha b hb;obtain⟨e,he,rfl⟩:=ZD.1 ha;have hb':b=clock:=by simpa using hb
  have:=h.1 e he;omega
theorem z26 (l:List MapEntry)(i:Nat)(k v:zV):(l.modify i (fun e=>{ e with key:=k,val:=v })).map (·.born)=l.map (·.born):=by
 induction l generalizing i with
 | nil=>simp
 | cons e l ih =>
  cases i with
  | zero=>simp
  | succ i=>simp [ih]
theorem z1z.modify {es:List MapEntry}{clock:Nat}(h:z1z es clock)(i:Nat)(k v:zV):z1z (es.modify i (fun e=>{ e with key:=k,val:=v })) clock:=by
 have hb:=z26 es i k v;refine⟨fun e he=>?_,by rw[hb];exact h.2⟩
 have hm:e.born∈(es.modify i (fun e=>{ e with key:=k,val:=v })).map (·.born):=ZD.2 ⟨e,he,rfl⟩
 rw[hb] at hm;obtain⟨e',he',e2⟩:=ZD.1 hm;have:=h.1 e' he';omega
theorem z23.lt (h:z23 kv w B m):B<w.heap.size:=by obtain⟨es,c,h,_⟩:=h;exact (ZC.1 h).1
theorem z23.keep (h:z23 kv w B m)(hk:w'.heap[B]? = w.heap[B]?):z23 kv w' B m:=by obtain⟨es,c,h,r⟩:=h;exact⟨es,c,hk.trans h,r⟩
theorem z23.kw (h:z23 kv w B m)(hb:zB w w'):z23 kv w' B m:=h.keep (hb.block B h.lt)
theorem z23.alloc (h:z23 kv w B m)(o:Obj):z23 kv (w.alloc o) B m:=h.keep (Below.heap_alloc w o B h.lt)
theorem z23.drewN (h:z23 kv w B m)(n:Nat):z23 kv (w.drewN n) B m:=h
theorem z23.setCell (h:z23 kv w B m){p:Addr}(hp:p.block≠B)(u:zV):z23 kv (w.setCell p u) B m:=h.keep (Ya w p u B (fun e=>hp e.symm))
theorem z23.new (kv:κ->zV)(w:zW):z23 kv (w.alloc (.map #[] 0)) w.heap.size []:=⟨#[],0,heap_alloc_new w _,rfl,⟨fun e he=>by simp at he,by simp⟩⟩
end
section
variable {κ : Type} [BEq κ] {P : Program} {k : TypeId} {kv : κ -> zV} {w : zW} {B : Nat} {m : List (κ × zV)}
theorem z27 (d:TypeDesc)(hd:∀ a b,Instr.sameNow d (kv a) (kv b)=some (a == b))(x:κ):
  ∀(es:List MapEntry) (m:List (κ×zV)) (i:Nat),z1x es=m.map (fun p=>(kv p.1,p.2)) ->
   Instr.findNow d (kv x) es i=some (((m.zipIdx i).find? (fun q=>x == q.1.1)).map fun q=>(q.2,q.1.2)):=by
 intro es;induction es with
 | nil=>intro m i h;cases m with
  | nil=>simp [Instr.findNow]
  | cons p m=>simp [z1x] at h
 | cons e es ih=>intro m i h;cases m with
  | nil=>simp [z1x] at h
  | cons p m =>
   simp only[z1x,ZN,List.cons.injEq,Prod.mk.injEq] at h
   obtain⟨⟨h1,h2⟩,h3⟩:=h;simp only[Instr.findNow,h1,hd,List.zipIdx_cons,List.find?_cons]
   cases hx:(x == p.1)
   ·exact ih m (i+1) h3
   ·simp [h2]
theorem z28 (x:κ):∀(m:List (κ×zV)) (i:Nat),(((m.zipIdx i).find? (fun q=>x == q.1.1)).map fun q=>q.1.2)=z1v m x
 | [],i=>rfl
 | p :: m,i=>by
  simp only[List.zipIdx_cons,List.find?_cons,z1v]
  cases hx:(x == p.1)
  ·exact z28 x m (i+1)
  ·rfl
theorem z29 {d:TypeDesc}(hk:P.underlying k=some d)(hs:∀ a b,Instr.sameNow d (kv a) (kv b)=some (a == b))(x:κ)(es:List MapEntry)(m:List (κ×zV))(w:zW)(h:z1x es=m.map (fun p=>(kv p.1,p.2))):
  (Instr.findKey k (kv x) es).run P w=.ok (((m.zipIdx 0).find? (fun q=>x == q.1.1)).map fun q=>(q.2,q.1.2)) w:=by
 simp only[Instr.findKey,Sem.run_bind,run_underlying hk,Result.andThen_ok,z27 d hs x es m 0 h,Sem.run_pure]
theorem z2a (hq:∀ a b (w:zW),(Op.equal k (kv a) (kv b)).run P w=.ok (a == b) w)(x:κ)(w:zW):
  ∀(es:List MapEntry) (m:List (κ×zV)) (i:Nat),z1x es=m.map (fun p=>(kv p.1,p.2)) ->
   (Instr.findAsking k (kv x) es i).run P w=.ok (((m.zipIdx i).find? (fun q=>x == q.1.1)).map fun q=>(q.2,q.1.2)) w:=by
 intro es;induction es with
 | nil=>intro m i h;cases m with
  | nil=>simp [Instr.findAsking]
  | cons p m=>simp [z1x] at h
 | cons e es ih=>intro m i h;cases m with
  | nil=>simp [z1x] at h
  | cons p m =>
   simp only[z1x,ZN,List.cons.injEq,Prod.mk.injEq] at h
   obtain⟨⟨h1,h2⟩,h3⟩:=h;simp only[Instr.findAsking,Sem.run_bind,h1,hq,Result.andThen_ok,List.zipIdx_cons,List.find?_cons]
   cases hx:(x == p.1)
   ·simpa using ih m (i+1) h3
   ·simp [h2]
theorem z2b {d:TypeDesc}(hk:P.underlying k=some d)(hs:∀ a b,Instr.sameNow d (kv a) (kv b)=none)(hq:∀ a b (w:zW),(Op.equal k (kv a) (kv b)).run P w=.ok (a == b) w)
  (x:κ) (es:List MapEntry) (m:List (κ×zV)) (w:zW) (h:z1x es=m.map (fun p=>(kv p.1,p.2))):
  (Instr.findKey k (kv x) es).run P w=.ok (((m.zipIdx 0).find? (fun q=>x == q.1.1)).map fun q=>(q.2,q.1.2)) w:=by
 simp only[Instr.findKey,Sem.run_bind,run_underlying hk,Result.andThen_ok]
 cases es with
 | nil=>cases m with
  | nil=>simp [Instr.findNow]
  | cons p m=>simp [z1x] at h
 | cons e es=>cases m with
  | nil=>simp [z1x] at h
  | cons p m =>
   have h':=h;simp only[z1x,ZN,List.cons.injEq,Prod.mk.injEq] at h'
   have hn:Instr.findNow d (kv x) (e :: es) 0=none:=by simp only[Instr.findNow,h'.1.1,hs]
   rw[hn];exact z2a hq x w (e :: es) (p :: m) 0 h
theorem z23.lookup (h:z23 kv w B m)(K:z1y P k kv){t e:TypeId}(ht:P.underlying t=some (.map k e)){z:zV}(hz:(zeroValue e).run P w=.ok z w)(x:κ)(c:Bool):
  (Instr.lookup t (.map (some B)) (kv x) c).run P w=.ok (if c then .tuple #[(z1v m x).getD z,.bool (z1v m x).isSome] else (z1v m x).getD z) w:=by
 obtain⟨es,clock,hB,hp,-⟩:=h;have hf:=z28 x m 0;have hg:(getObj B).run P w=.ok (.map es clock) w:=by simp [getObj,Sem.run,hB]
 simp only[Instr.lookup,Sem.run_bind,run_underlying ht,Result.andThen_ok,hg,K.check,K.find x _ _ _ hp,Sem.run_pure]
 cases hq:(m.zipIdx 0).find? (fun q=>x == q.1.1) with
 | none=>rw[hq] at hf;simp only[Option.map_none] at hf;simp [<- hf,hz]
 | some q=>rw[hq] at hf;simp only[Option.map_some] at hf;simp [<- hf]
theorem z2c (x:κ)(v:zV):∀(es:List MapEntry) (m:List (κ×zV)) (i:Nat) (q:(κ×zV)×Nat),z1x es=m.map (fun p=>(kv p.1,p.2)) ->
  (m.zipIdx i).find? (fun q=>x == q.1.1)=some q->i<=q.2/\z1x (es.modify (q.2 - i) (fun e=>{ e with key:=kv x,val:=v }))=(z1w m x v).map (fun p=>(kv p.1,p.2))/\(∃ e y,es[q.2 - i]? = some e/\e.key=kv y/\(x == y)=true):=by
 intro es;induction es with
 | nil=>intro m i q h hq;cases m with
  | nil=>simp at hq
  | cons p m=>simp [z1x] at h
 | cons e es ih=>intro m i q h hq;cases m with
  | nil=>simp [z1x] at h
  | cons p m =>
   simp only[z1x,ZN,List.cons.injEq,Prod.mk.injEq] at h
   obtain⟨⟨h1,h2⟩,h3⟩:=h;simp only[List.zipIdx_cons,List.find?_cons] at hq
   cases hx:(x == p.1)
   ·rw[hx] at hq;obtain⟨a1,a2,a3⟩:=ih m (i+1) q h3 hq;refine⟨by omega,?_,?_⟩
    ·rw[show q.2 - i=(q.2 - (i+1))+1 by omega]
     simp only[List.modify_succ_cons,z1x,ZN,z1w,hx]
     simpa [h1,h2,z1x] using a2
    ·rw[show q.2 - i=(q.2 - (i+1))+1 by omega]
     simpa using a3
   ·rw[hx] at hq;obtain rfl:(p,i)=q:=by simpa using hq
    refine⟨Zd _,by simp [z1x,z1w,hx,<- h3],e,p.1,by simp,h1,hx⟩
theorem z2d (x:κ)(v:zV):∀(m:List (κ×zV)) (i:Nat),(m.zipIdx i).find? (fun q=>x == q.1.1)=none->z1w m x v=m++[(x,v)]
 | [],_,_=>rfl
 | p :: m,i,h=>by
  simp only[List.zipIdx_cons,List.find?_cons] at h
  cases hx:(x == p.1)
  ·rw[hx] at h;simp [z1w,hx,z2d x v m (i+1) h]
  ·rw[hx] at h;simp at h
theorem z23.update (h:z23 kv w B m)(K:z1y P k kv){t e:TypeId}(ht:P.underlying t=some (.map k e))(x:κ)(v:zV):
  ∃ w',(Instr.mapUpdate t (.map (some B)) (kv x) v).run P w=.ok () w'/\z23 kv w' B (z1w m x v)/\w.grownBy w' (some B)/\w'.heap.size=w.heap.size:=by
 have hlt:=h.lt;obtain⟨es,clock,hB,hp,hst⟩:=h;have hg:(getObj B).run P w=.ok (.map es clock) w:=by simp [getObj,Sem.run,hB]
 have hset:∀ o:Obj,∃ w',(setObj B o).run P w=.ok () w'/\w'.heap[B]? = some o/\w.grownBy w' (some B)/\w'.heap.size=w.heap.size:=by
  intro o;refine⟨{ w with heap:=w.heap.setIfInBounds B o },by simp [setObj,Sem.run,hB],by simp [hlt],⟨rfl,rfl,rfl,by simp,fun k _ hk=>?_⟩,by simp⟩
  show (w.heap.setIfInBounds B o)[k]? = _
  rw[Array.getElem?_setIfInBounds_ne (fun e=>hk (by rw[e]))]
 cases hq:(m.zipIdx 0).find? (fun q=>x == q.1.1) with
 | none =>
  obtain⟨w',hr,hb',hgr,hsz⟩:=hset (.map (es.push { key:=kv x,val:=v,born:=clock }) (clock+1));refine⟨w',?_,⟨_,_,hb',?_,by rw[Array.toList_push];exact hst.push _ _⟩,hgr,hsz⟩
  ·simp only[Instr.mapUpdate,Sem.run_bind,run_underlying ht,Result.andThen_ok,hg,K.check,K.find x _ _ _ hp,hq,Option.map_none,hr]
  ·rw[z2d x v m 0 hq];simp only[z1x] at hp
   simp [z1x,hp]
 | some q =>
  obtain⟨-,a2,e0,y,a3,a4,a5⟩:=z2c (kv:=kv) x v es.toList m 0 q hp hq;simp only[Nat.sub_zero] at a2 a3
  obtain⟨w',hr,hb',hgr,hsz⟩:=hset (.map (es.modify q.2 fun e=>{ e with key:=kv x,val:=v }) clock)
  refine⟨w',?_,⟨_,_,hb',?_,by rw[Array.toList_modify];exact hst.modify _ _ _⟩,hgr,hsz⟩
  ·have he:es[q.2]? = some e0:=by simpa using a3
   simp only[Instr.mapUpdate,Sem.run_bind,run_underlying ht,Result.andThen_ok,hg,K.check,K.find x _ _ _ hp,hq,Option.map_some,Instr.keyThatStays,he,Option.getD_some,a4,K.bits x y a5,if_true,Sem.run_pure,hr]
  ·simpa using a2
end
theorem ba_eq {a b:zA}(h:(a == b)=true):a=b:=by
 cases a with | mk x=>cases b with | mk y =>
 have:(x == y)=true:=h;rw[eq_of_beq this]
theorem z2e (a:zA):(a == a)=true:=by
 cases a with | mk x =>
 show (x == x)=true
 simp
theorem z2f {P:Program}{k:TypeId}(hk:P.underlying k=some .string)(b:Bool)(a:zA)(w:zW)(n:Nat):(Instr.checkKey b (n+1) k (zS a)).run P w=.ok () w:=by
 simp [Instr.checkKey,run_underlying hk]
theorem z2g {P:Program}{k:TypeId}{q:IntKind}(hk:P.underlying k=some (.int q))(b:Bool)(a:Int)(w:zW)(n:Nat):(Instr.checkKey b (n+1) k (.int q a)).run P w=.ok () w:=by
 simp [Instr.checkKey,run_underlying hk]
theorem z2h (a:zA)(n:Nat):Instr.sameBits (n+1) (zS a) (zS a)=true:=by simp only[Instr.sameBits];exact z2e a
theorem z2i (q:IntKind)(a:Int)(n:Nat):Instr.sameBits (n+1) (.int q a) (.int q a)=true:=by simp [Instr.sameBits]
theorem z2j {P:Program}{k:TypeId}(hk:P.underlying k=some .string):z1y P k Value.string:=
 ⟨z29 hk fun _ _=>rfl,fun b a w=>z2f hk b a w 9999,fun a b h=>by
  have:b=a:=(ba_eq h).symm;subst this;exact z2h b 9999⟩
theorem z2k {P:Program}(t k e:TypeId)(kd:IntKind)(n:Int)(ht:P.underlying t=some (.map k e))(w:zW):
  (Instr.makeMap t (some (.int kd n))).run P w=.ok (.map (some w.heap.size)) (w.alloc (.map #[] 0)):=by
 simp [Instr.makeMap,run_underlying ht];rfl
instance lawfulBA:LawfulBEq zA where
 eq_of_beq:=ba_eq
 rfl:=z2e _
section
variable {κ α : Type} [BEq κ] {P : Program} {k : TypeId} {kv : κ -> zV} {enc : α -> zV} {w w' : zW} {B : Nat} {f : κ -> Option α}
def upd {κ α:Type}[DecidableEq κ](f:κ->Option α)(k:κ)(v:α):κ->Option α:=fun x=>if x=k then some v else f x
def z2l (kv:κ->zV)(enc:α->zV)(w:zW)(B:Nat)(f:κ->Option α):Prop:=∃ m,z23 kv w B m/\∀ x,z1v m x=(f x).map enc
theorem z2m [LawfulBEq κ][DecidableEq κ](m:List (κ×zV))(x k:κ)(v:zV):z1v (z1w m k v) x=if x=k then some v else z1v m x:=by
 induction m with
 | nil =>
  by_cases h:x=k
  ·simp [z1v,z1w,h]
  ·simp [z1v,z1w,h]
 | cons p m ih =>
  by_cases hk:k=p.1
  ·subst hk;by_cases h:x=p.1 <;> simp [z1v,z1w,h]
  ·have hk':(k == p.1)=false:=by simpa using hk
   simp only[z1w,hk']
   unfold z1v at ih |-
   by_cases h:x=p.1
   ·subst h;have:¬ p.1=k:=fun e=>hk e.symm;simp [this]
   ·have h':(x == p.1)=false:=by simpa using h
    simp only[Bool.false_eq_true,if_false,List.find?_cons,h']
    exact ih
theorem z2l.lt (h:z2l kv enc w B f):B<w.heap.size:=by obtain⟨m,h,_⟩:=h;exact h.lt
theorem z2l.keep (h:z2l kv enc w B f)(hk:w'.heap[B]? = w.heap[B]?):z2l kv enc w' B f:=by obtain⟨m,h,r⟩:=h;exact⟨m,h.keep hk,r⟩
theorem z2l.kw (h:z2l kv enc w B f)(hb:zB w w'):z2l kv enc w' B f:=by obtain⟨m,h,r⟩:=h;exact⟨m,h.kw hb,r⟩
theorem z2l.alloc (h:z2l kv enc w B f)(o:Obj):z2l kv enc (w.alloc o) B f:=by obtain⟨m,h,r⟩:=h;exact⟨m,h.alloc o,r⟩
theorem z2l.setCell (h:z2l kv enc w B f){p:Addr}(hp:p.block≠B)(u:zV):z2l kv enc (w.setCell p u) B f:=by obtain⟨m,h,r⟩:=h;exact⟨m,h.setCell hp u,r⟩
theorem z2l.new (kv:κ->zV)(enc:α->zV)(w:zW):z2l kv enc (w.alloc (.map #[] 0)) w.heap.size (fun _=>none):=⟨[],z23.new kv w,fun _=>rfl⟩
theorem z2l.grown {row:Option Nat}(h:z2l kv enc w B f)(hb:w.grownBy w' row)(hg:some B≠row):z2l kv enc w' B f:=h.keep (hb.block B h.lt hg)
def z2n (enc:α->zV)(z:zV)(c:Bool)(o:Option α):zV:=if c then .tuple #[(o.map enc).getD z,.bool o.isSome] else (o.map enc).getD z
theorem z2l.lookup (h:z2l kv enc w B f)(K:z1y P k kv){t e:TypeId}(ht:P.underlying t=some (.map k e)){z:zV}(hz:(zeroValue e).run P w=.ok z w)(x:κ)(c:Bool):
  (Instr.lookup t (.map (some B)) (kv x) c).run P w=.ok (z2n enc z c (f x)) w:=by
 obtain⟨m,h,r⟩:=h;rw[h.lookup K ht hz x c,r x];unfold z2n;cases f x <;> rfl
theorem z2l.update [LawfulBEq κ][DecidableEq κ](h:z2l kv enc w B f)(K:z1y P k kv){t e:TypeId}(ht:P.underlying t=some (.map k e))(x:κ)(v:α):
  ∃ w',(Instr.mapUpdate t (.map (some B)) (kv x) (enc v)).run P w=.ok () w'/\z2l kv enc w' B (upd f x v)/\w.grownBy w' (some B)/\w'.heap.size=w.heap.size:=by
 obtain⟨m,h,r⟩:=h;obtain⟨w',h1,h2,h3,h4⟩:=h.update K ht x (enc v);refine⟨w',h1,⟨_,h2,fun y=>?_⟩,h3,h4⟩;rw[z2m];unfold upd;by_cases e:y=x
 ·rw[if_pos e,if_pos e];rfl
 ·rw[if_neg e,if_neg e];exact r y
end
