/- A part. -/
import Derived.Test.YtijghobkkdbhnaaGreatDoorMcw14
import Derived.Test.YtijghobkkdbhnaaGreatDoorMcw18
import Derived.Test.YtijghobkkdbhnaaGreatDoorMcw15
import Derived.ProofKit
import Derived.OpenShut
import Derived.ShutString
import Derived.ChangeOld
import Derived.Deep.Slices
import Derived.Deep.Fields
import Derived.ChangeSlices
set_option linter.unusedVariables false
set_option linter.unusedSimpArgs false
set_option maxRecDepth 100000
namespace Go.Proofs.YtijghobkkdbhnaaGreatDoor
open Go.RowKit
def atM (m:Int)(o v:Rev):Rev:=if v.chg≤m then v else o
def rAt (D:List Rev)(p:ByteArray)(m:Int):Rev:=(zga D p).foldl (atM m) z2r
def gS (p:ByteArray)(f:Rev→Bool)(o:Option Rev)(r:Rev):Option Rev:=if r.path=p∧f r=true then (match o with
  | none=>some r
  | some b=>if b.num<r.num then some r else some b) else o
theorem zgn (D:List Rev)(p:ByteArray)(f:Rev→Bool):z36 D p f=D.foldl (gS p f) none:=rfl
theorem gS_far {p:ByteArray}{f:Rev→Bool}{o:Option Rev}{r:Rev}(h:¬(r.path=p∧f r=true)):gS p f o r=o:=if_neg h
theorem gS_more {p:ByteArray}{f:Rev→Bool}{o:Option Rev}{r:Rev}(h:r.path=p∧f r=true)(ho:∀ b,o=some b→b.num<r.num):gS p f o r=some r:=by
 unfold gS;rw[if_pos h];cases o with
 | none=>rfl
 | some b=>exact if_pos (ho b rfl)
theorem zgo (D:List Rev)(p:ByteArray)(f:Rev→Bool):z36 D p f=z36 (zga D p) p f:=by
 rw[zgn,zgn];unfold zga;rw[List.foldl_filter];congr 1
 funext o r
 by_cases h:r.path=p
 ·simp [h]
 ·rw[gS_far (fun e=>h e.1)];simp [h]
theorem zgp (m:Int)(p:ByteArray):∀(l:List Rev) (o:Option Rev),l.Pairwise (fun a b=>a.num<b.num)→(∀ v∈l,0<v.num∧v.path=p)→(∀ b,o=some b→0<b.num∧∀ v∈l,b.num<v.num) →
  zdv (l.foldl (gS p (fun v=>decide (v.chg≤m))) o)=l.foldl (atM m) (zdv o)∧(l.foldl (gS p (fun v=>decide (v.chg≤m))) o).isSome=decide (0<(l.foldl (atM m) (zdv o)).num)
 | [],o,_,_,ho=>by
  refine⟨rfl,?_⟩;cases o with
  | none=>rfl
  | some b=>have:=(ho b rfl).1;simp [zdv,this]
 | v :: l,o,hs,hn,ho=>by
  obtain⟨h1,h2⟩:=List.pairwise_cons.1 hs;have hv:=hn v (List.mem_cons_self ..);have hn2:∀ x∈l,0<x.num∧x.path=p:=fun x hx=>hn x (List.mem_cons_of_mem _ hx);rw[List.foldl_cons,List.foldl_cons];by_cases hc:v.chg≤m
  ·have e2:atM m (zdv o) v=zdv (some v):=by unfold atM;rw[if_pos hc];rfl
   rw[gS_more ⟨hv.2,by simpa using hc⟩ (fun b hb=>(ho b hb).2 v (List.mem_cons_self ..)),e2]
   exact zgp m p l (some v) h2 hn2 (fun b hb=>by injection hb with hb;subst hb;exact⟨hv.1,h1⟩)
  ·have e2:atM m (zdv o) v=zdv o:=by unfold atM;rw[if_neg hc]
   rw[gS_far (by simp [hc]),e2]
   exact zgp m p l o h2 hn2 (fun b hb=>⟨(ho b hb).1,fun x hx=>(ho b hb).2 x (List.mem_cons_of_mem _ hx)⟩)
def zj7 (w:World)(B:Nat)(v:Value)(l:List Syn):Prop:=w.ownsRow B 50 5 v l.length (l.flatMap Syn.cells)
def zj8 (q:Int)(x:Syn):Syn:={ x with kind:=q }
theorem zj9 (q:Int):∀(l:List Syn) (k:Nat) (hk:k<l.length),(l.set k (zj8 q l[k])).flatMap Syn.cells=(l.flatMap Syn.cells).set (k * 5) (.int .i64 q)
 | [],k,hk=>absurd hk (by simp)
 | x :: r,0,_=>rfl
 | x :: r,k+1,hk=>by
  have ih:=zj9 q r k (by simpa using hk)
  have e:(k+1) * 5=k * 5+5:=by omega
  rw[List.getElem_cons_succ,List.set_cons_succ,List.flatMap_cons,List.flatMap_cons,ih,e];rfl
theorem zj7.slice {w:World}{B:Nat}{v:Value}{l:List Syn}(h:zj7 w B v l)(hk:0<l.length):∃ g c,v=.slice (some ⟨g,0,none⟩) l.length c∧B≤g∧g<w.heap.size:=by
 obtain⟨-,h2 | ⟨g,cap,cur,e1,h3,h4,-⟩⟩:=h
 ·omega
 ·exact⟨g,cap,e1,h3,(Array.getElem?_eq_some_iff.1 h4).1⟩
theorem zj7.cell {w:World}{B g c n:Nat}{l:List Syn}(h:zj7 w B (.slice (some ⟨g,0,none⟩) n c) l){k:Nat}(hk:k<l.length):
  z58 w ⟨g,k * 5,none⟩ l[k]∧w.frozen? ⟨g,k * 5,none⟩=false:=by
 have hn:n=l.length:=by
  obtain⟨A,c',e⟩:=z0o h;injection e
 subst hn;have hat:∀ j u,j<5→l[k].cells[j]? = some u→(l.flatMap Syn.cells)[k * 5+j]? = some u:=by
  intro j u hj hu;rw[z4b Syn.cells 5 (fun _=>rfl) l k j hk hj];exact hu
 have h0:=z9x h (j:=k * 5) (hat 0 _ (by omega) rfl)
 exact⟨⟨h0.1,(z9x h (j:=k * 5+1) (hat 1 _ (by omega) rfl)).1,(z9x h (j:=k * 5+2) (hat 2 _ (by omega) rfl)).1,(z9x h (j:=k * 5+3) (hat 3 _ (by omega) rfl)).1,(z9x h (j:=k * 5+4) (hat 4 _ (by omega) rfl)).1⟩,h0.2.1⟩
theorem zj7.put {w:World}{B g c n:Nat}{l:List Syn}(h:zj7 w B (.slice (some ⟨g,0,none⟩) n c) l){k:Nat}(hk:k<l.length)(q:Int):
  zj7 (w.setCell ⟨g,k * 5,none⟩ (.int .i64 q)) B (.slice (some ⟨g,0,none⟩) n c) (l.set k (zj8 q l[k])):=by
 have hn:n=l.length:=by
  obtain⟨A,c',e⟩:=z0o h;injection e
 subst hn;unfold zj7;rw[List.length_set,zj9 q l k hk];exact z9w h _
def zjd (w:World)(base:Nat)(e:TypeId)(size:Nat)(v:Value)(n:Nat)(xs:List Value):Prop:=
  xs.length=n * size ∧
  ((v=.slice none 0 0∧n=0) ∨
   ∃ g off cap cur,v=.slice (some ⟨g,off,none⟩) n cap∧base≤g∧w.heap[g]? = some (.cells cur e (0,0))∧n≤cap∧cap≤maxLen∧off+cap * size≤cur.size∧(cur.toList.drop off).take (n * size)=xs)
section
variable {w w' : World} {base : Nat} {e : TypeId} {size n : Nat} {v : Value} {xs : List Value}
theorem zjd.of_own (h:w.ownsRow base e size v n xs):zjd w base e size v n xs:=by
  refine⟨h.1,?_⟩;rcases h.2 with h2 | ⟨g,cap,cur,e1,h3,h4,h5,h6,h7,h8⟩
  · exact .inl h2
  · exact .inr ⟨g,0,cap,cur,e1,h3,h4,h5,h6,by omega,by rw[List.drop_zero];exact h8⟩
theorem zjd.lt (h:zjd w base e size v n xs):∀ k,v.ownBlock=some k→base≤k∧k<w.heap.size:=by
  intro k hk;rcases h.2 with⟨rfl,_⟩ | ⟨g,off,cap,cur,rfl,hb,hg,_⟩
  · cases hk
  · injection hk with hk
    subst hk;exact⟨hb,(Array.getElem?_eq_some_iff.1 hg).1⟩
theorem zjd.keepAt (h:zjd w base e size v n xs)(hk:∀ x,v.ownBlock=some x→w'.heap[x]? = w.heap[x]?):zjd w' base e size v n xs:=by
  refine⟨h.1,?_⟩;rcases h.2 with h2 | ⟨g,off,cap,cur,e1,h3,h4,h5⟩
  · exact .inl h2
  · exact .inr ⟨g,off,cap,cur,e1,h3,(hk g (by rw[e1];rfl)).trans h4,h5⟩
theorem zjd.below (h:zjd w base e size v n xs)(hb:zB w w'):zjd w' base e size v n xs:=h.keepAt fun x hx=>hb.block x (h.lt x hx).2
theorem zjd.setCell (h:zjd w base e size v n xs){p:Addr}(hne:v.ownBlock≠some p.block)(u:Value):zjd (w.setCell p u) base e size v n xs:=
  h.keepAt fun x hx=>Below.heap_setCell w p u x fun e=>hne (by rw[hx,← e])
theorem zjd.row (h:zjd w base e size v n xs):Row w size v n xs:=by
  have hl:=h.1;rcases h.2 with⟨rfl,rfl⟩ | ⟨g,off,cap,cur,rfl,_,hg,hnc,hcm,hs,ht⟩
  · exact⟨none,0,rfl,Nat.le_refl _,by simp [maxLen],hl,fun _=>rfl,fun h=>absurd h (by omega)⟩
  · refine⟨_,cap,rfl,hnc,hcm,hl,fun h=>(by cases h),fun _=>⟨_,rfl,(Array.getElem?_eq_some_iff.1 hg).1,fun j u hu=>?_⟩⟩
    rw[Addr.add_lit,cell_of_row w g _ cur e (0,0) hg];rw[← ht,List.getElem?_take] at hu;split at hu
    · rw[List.getElem?_drop] at hu
      simpa using hu
    · cases hu
theorem zjd.tail {ad:Addr}{c:Nat}(h:zjd w base e size (.slice (some ad) (n+1) c) (n+1) xs):zjd w base e size (.slice (if c=1 then some ad else some ⟨ad.block,ad.off+size,none⟩) n (c - 1)) n (xs.drop size):=by
  obtain⟨hl,⟨h1,h2⟩ | ⟨g,off,cap,cur,e1,h3,h4,h5,h6,h7,h8⟩⟩:=h
  · omega
  injection e1 with e1 e2 e3
  injection e1 with e1
  subst e1 e3;have hm:(n+1) * size=n * size+size:=Nat.succ_mul n size;refine⟨by rw[List.length_drop,hl,hm];omega,.inr ?_⟩
  by_cases hc:c=1
  · have hn:n=0:=by omega
    subst hn;rw[if_pos hc];refine⟨g,off,c - 1,cur,rfl,h3,h4,by omega,by omega,by rw[hc];omega,?_⟩
    rw[Nat.zero_mul,List.take_zero];refine (List.eq_nil_of_length_eq_zero ?_).symm;rw[List.length_drop,hl];omega
  · rw[if_neg hc]
    have hcm:c * size=(c - 1) * size+size:=by
      have h9:c=(c - 1)+1:=by omega
      conv=>lhs;rw[h9,Nat.succ_mul]
    refine⟨g,off+size,c - 1,cur,rfl,h3,h4,by omega,by omega,by omega,?_⟩
    rw[← h8,hm,← List.drop_drop,List.drop_take,show n * size+size - size=n * size by omega]
theorem zje {P:Program}(w:World)(t ty e:TypeId)(i:TypeInfo)(ht:P.underlying t=some (.slice e))(hi:P.info? e=some i)
    (g off sLen sCap:Nat) (cur:Array Value) (hg:w.heap[g]? = some (.cells cur e (0,0)))
    (a:Addr) (m c:Nat) (news:List Value) (hl:news.length=m * i.size) (hnews:∀ j u,news[j]? = some u→w.cell? (a.add j)=some u) (h1:∀ u∈news,u.oneCell'=true)
    (hroom:sLen+m≤sCap) (hfit:off+sLen * i.size+news.length≤cur.size):
    (Builtin.append_ #[t,t] ty #[.slice (some ⟨g,off,none⟩) sLen sCap,.slice (some a) m c]).run P w =
      .ok (.slice (some ⟨g,off,none⟩) (sLen+m) sCap) (w.setRow g (cur.toList.take (off+sLen * i.size)++news++cur.toList.drop (off+sLen * i.size+news.length)).toArray):=by
  have hf:=run_firstCells_some (P:=P) w i.size m a m c news hl hnews;have hst:=run_storeCells_at P g (off+sLen * i.size) e news 0 cur w hg (by simpa using hfit) h1
  simp only[Nat.add_zero] at hst
  simp [Builtin.append_,run_underlying ht,sizeOf,typeInfo,hi,Builtin.lenOf,hroom,hf,Addr.add_lit,hst]
theorem zjf {P:Program}{W:World}{t ty e:TypeId}{size bytes base:Nat}(he:z0e P t e size bytes){v:Value}{n:Nat}{xs:List Value}(hown:zjd W base e size v n xs)
    {ad:Addr} {m c:Nat} {news:List Value} (hl:news.length=m * size) (hnews:∀ j u,news[j]? = some u→W.cell? (ad.add j)=some u) (h1:∀ u∈news,u.oneCell'=true) (hm:0<m) (hbytes:(n+m) * bytes≤140737488355328) (h63:n+m≤maxLen) (hbase:base≤W.heap.size):
    ∃ A' c' w',(Builtin.append_ #[t,t] ty #[v,.slice (some ad) m c]).run P W=.ok (.slice A' (n+m) c') w'∧zjd w' base e size (.slice A' (n+m) c') (n+m) (xs++news)∧W.grownBy w' v.ownBlock ∧
      ((Value.slice A' (n+m) c').ownBlock=v.ownBlock∨(Value.slice A' (n+m) c').ownBlock=some W.heap.size):=by
  rcases hown.2 with⟨rfl,rfl⟩ | ⟨g,off,cap,cur,rfl,hbg,hg,hnc,hcm,hcs,htake⟩
  · have ho:W.ownsRow base e size (.slice none 0 0) 0 xs:=⟨hown.1,.inl ⟨rfl,rfl⟩⟩
    obtain⟨i,z,ht,hi,hz,hsize,hby,hzs,hsz⟩:=he;obtain⟨v',w',hr,h2,h3,h4,h5⟩:=run_append_own_at (P:=P) W base t ty e i z size bytes ht hi hz hsize hby hzs hsz _ 0 xs ho ad m c news hl hnews h1 h63 hbytes hbase;rcases h2.2 with⟨e1,e2⟩ | ⟨g,cap,cur,e1,_⟩
    · omega
    · subst e1
      exact⟨_,_,w',hr,zjd.of_own h2,h3,h5⟩
  · obtain⟨i,z,ht,hi,hz,hsize,hby,hzs,hsz⟩:=he
    subst hsize;subst hby;have hsmall:n+m≤9223372036854775807:=by simp only[maxLen] at h63;omega
    have hlen:(xs++news).length=(n+m) * i.size:=by rw[List.length_append,hown.1,hl,Nat.add_mul]
    by_cases hroom:n+m≤cap
    · have hmul:(n+m) * i.size≤cap * i.size:=Nat.mul_le_mul_right _ hroom
      rw[Nat.add_mul] at hmul;have hfit:off+n * i.size+news.length≤cur.size:=by omega
      have hr:=zje (P:=P) W t ty e i ht hi g off n cap cur hg ad m c news hl hnews h1 hroom hfit;refine⟨_,_,_,hr,⟨hlen,.inr ⟨g,off,cap,_,rfl,hbg,setRow_heap W g cur _ e _ hg,hroom,hcm,?_,?_⟩⟩,⟨rfl,rfl,rfl,by simp,fun k _ hk=>setRow_other W g k _ (fun e=>hk (by simp [Value.ownBlock,e]))⟩,Or.inl rfl⟩
      · simp only[List.size_toArray,List.length_append,List.length_take,List.length_drop,Array.length_toList]
        omega
      · have hx:cur.toList.take (off+n * i.size)=cur.toList.take off++xs:=by rw[List.take_add,htake]
        show ((cur.toList.take (off+n * i.size)++news++cur.toList.drop (off+n * i.size+news.length)).drop off).take ((n+m) * i.size)=xs++news
        rw[hx,List.append_assoc,List.append_assoc,List.drop_left' (by rw[List.length_take,Array.length_toList];omega),← List.append_assoc,← hlen]
        exact List.take_left
    · have hfit:Builtin.nextslicecap (n+m) cap * i.bytes≤281474976710656:=growslice_fits (by omega) hbytes
      have holds:∀ j u,xs[j]? = some u→W.cell? ((⟨g,off,none⟩:Addr).add j)=some u:=by
        obtain⟨A',c',e1,-,-,-,-,h9⟩:=hown.row;injection e1 with e1
        intro j u hj;rcases Nat.eq_zero_or_pos n with h0 | h0
        · have hx:xs=[]:=List.eq_nil_of_length_eq_zero (by rw[hown.1,h0];simp)
          rw[hx] at hj;simp at hj
        · obtain⟨ad',e2,-,h10⟩:=h9 h0
          rw[← e1] at e2;injection e2 with e2
          subst e2;exact h10 j u hj
      have hr:=run_append_grow (P:=P) W t ty e i z ht hi hz ⟨g,off,none⟩ n cap xs hown.1 holds ad m c news hl hnews (by omega) (by omega) hfit
      have hge:=grownCap_ge W (n+m) cap e;have hcm:=grownCap_le_maxLen W (n+m) cap e h63;refine⟨_,_,_,hr,⟨hlen,.inr ⟨W.heap.size,0,_,_,rfl,hbase,heap_alloc_new W.drew _,hge,hcm,?_,?_⟩⟩,⟨rfl,rfl,rfl,by simp,fun k hk _=>heap_alloc_old W.drew _ hk⟩,Or.inr rfl⟩
      · simp only[Array.size_append,List.size_toArray,size_zeroCells,hzs,hown.1,hl,← Nat.add_mul]
        refine Nat.le_of_eq ?_;rw[Nat.zero_add];congr 1
        omega
      · rw[List.drop_zero]
        simp only[Array.toList_append,List.append_assoc]
        rw[← List.append_assoc,← hlen];exact List.take_left
end
abbrev Fl:=ByteArray×ByteArray
def Shut (b:ByteArray→Bool)(pr:List Syn)(p l:ByteArray):Prop:=∀ x∈pr,z3t x.kind=false→b x.path=false→x.dst≠z2q→x.dst=l→x.path=p
structure BkIn (hs:List Hav)(pl:List Syn)(b:ByteArray→Bool)(Q:List Fl)(p l:ByteArray)(pr:List Syn):Prop where
 sound:∀ q,b q=true→Bl hs pl q
 one:(∃ h∈hs,h.path=p∧h.loc=l)∧ze5 pl b p
 que:∀ q∈Q,(∃ h∈hs,h.path=q.1∧h.loc=q.2)∧ze5 pl b q.1
 done:∀ h∈hs,ze5 pl b h.path→(h.path,h.loc)∈Q∨Shut b pl h.path h.loc∨(h.path=p∧h.loc=l)
 shut:Shut b pr p l
structure BkSt (hs:List Hav)(pl:List Syn)(b:ByteArray→Bool)(Q:List Fl):Prop where
 sound:∀ q,b q=true→Bl hs pl q
 que:∀ q∈Q,(∃ h∈hs,h.path=q.1∧h.loc=q.2)∧ze5 pl b q.1
 done:∀ h∈hs,ze5 pl b h.path→(h.path,h.loc)∈Q∨Shut b pl h.path h.loc
def setB (b:ByteArray→Bool)(p:ByteArray):ByteArray→Bool:=fun q=>decide (q=p) || b q
section
variable {hs : List Hav} {pl : List Syn} {b : ByteArray → Bool} {Q : List Fl}
theorem zjl {p q:ByteArray}(h:b q=true):setB b p q=true:=by unfold setB;rw[h,Bool.or_true]
theorem zjm {p:ByteArray}:setB b p p=true:=by unfold setB;simp
theorem zjn {p q:ByteArray}(h:setB b p q=true):q=p∨b q=true:=by unfold setB at h;simpa using h
theorem zjo {p q:ByteArray}(h:setB b p q=false):q≠p∧b q=false:=by
 unfold setB at h;simp only[Bool.or_eq_false_iff,decide_eq_false_iff_not] at h
 exact h
theorem zjp {p q:ByteArray}(h:ze5 pl b q):ze5 pl (setB b p) q:=by
 rcases h with h | ⟨y,h,h1 | h1⟩
 ·exact .inl h
 ·exact .inr ⟨y,h,.inl h1⟩
 ·exact .inr ⟨y,h,.inr (zjl h1)⟩
theorem zjq {p q l:ByteArray}{pr:List Syn}(h:Shut b pr q l):Shut (setB b p) pr q l:=fun x hx h1 h2=>h x hx h1 (zjo h2).2
theorem bk_init (hs:List Hav)(pl:List Syn)(Q:List Fl)(hq:∀ q,q∈Q↔∃ h∈hs,(h.path,h.loc)=q∧ze5 pl (fun _=>false) h.path):BkSt hs pl (fun _=>false) Q:=
 ⟨(fun q h=>by cases h),(fun q hQ=>by
  obtain⟨f,h1,h2,h3⟩:=(hq q).1 hQ;subst h2;exact⟨⟨f,h1,rfl,rfl⟩,h3⟩),fun f hh hs2=>.inl ((hq _).2 ⟨f,hh,rfl,hs2⟩)⟩
theorem bk_pop {p l:ByteArray}(h:BkSt hs pl b ((p,l) :: Q)):BkIn hs pl b Q p l []:=
 ⟨h.sound,h.que _ (List.mem_cons_self ..),fun q hq=>h.que q (List.mem_cons_of_mem _ hq),(fun x hx hs2=>by
  rcases h.done x hx hs2 with h1 | h1
  ·rcases List.mem_cons.1 h1 with h1 | h1
   ·exact .inr (.inr (by injection h1 with a c;exact⟨a,c⟩))
   ·exact .inl h1
  ·exact .inr (.inl h1)),(fun x hx=>by cases hx)⟩
theorem bk_skip {p l:ByteArray}{pr:List Syn}{x:Syn}(h:BkIn hs pl b Q p l pr)(hx:x.path=p∨z3t x.kind=true∨b x.path=true):BkIn hs pl b Q p l (pr++[x]):=
 ⟨h.sound,h.one,h.que,h.done,fun y hy h1 h2 h3 h4=>by
  rcases List.mem_append.1 hy with hy | hy
  ·exact h.shut y hy h1 h2 h3 h4
  ·rw[List.mem_singleton] at hy;subst hy;rcases hx with e | e | e
   ·exact e
   ·rw[h1] at e;cases e
   ·rw[h2] at e;cases e⟩
theorem zjr {p l:ByteArray}{pr:List Syn}{x:Syn}(hsrt:z6j pl)(h1:zek hs)(hfrm:∀ x∈pl,x.frm=zjg hs x.path)(h:BkIn hs pl b Q p l pr)(hx:x∈pl)(hp:x.path≠p)(hk:z3t x.kind=false)(hd:x.dst≠z2q)(hl:x.dst=l):
  BkIn hs pl (setB b x.path) (if x.frm=z2q then Q else Q++[(x.path,x.frm)]) p l (pr++[x]):=by
 have hg:z6l pl x.path=some x:=z6b hsrt hx;have hst:ze5 pl (setB b x.path) x.path:=.inr ⟨x,hg,.inr zjm⟩;obtain⟨⟨f,f1,f2,f3⟩,f4⟩:=h.one;refine⟨fun q hq=>?_,⟨⟨f,f1,f2,f3⟩,zjp f4⟩,fun q hq=>?_,fun y hy hs2=>?_,fun y hy e1 e2 e3 e4=>?_⟩
 ·rcases zjn hq with rfl | hq
  ·exact ze7 h.sound hx hk hd f1 (by rw[f3,hl]) (by rw[f2];exact fun e=>hp e.symm) (by rw[f2];exact f4)
  ·exact h.sound q hq
 ·by_cases hf:x.frm=z2q
  ·rw[if_pos hf] at hq;obtain⟨a,c⟩:=h.que q hq;exact⟨a,zjp c⟩
  ·rw[if_neg hf] at hq;rcases List.mem_append.1 hq with hq | hq
   ·obtain⟨a,c⟩:=h.que q hq;exact⟨a,zjp c⟩
   ·rw[List.mem_singleton] at hq;subst hq;refine⟨?_,hst⟩;have e:=hfrm x hx;unfold zjg at e;cases hh:z6k hs x.path with
    | none=>rw[hh] at e;exact absurd e hf
    | some a =>
     rw[hh] at e;obtain⟨m1,m2⟩:=zjh hh;exact⟨a,m1,m2,e.symm⟩
 ·by_cases ep:y.path=x.path
  ·-- the file of the step that was blocked just now
   have e:=hfrm x hx;unfold zjg at e;rw[← ep,getH_of h1 hy] at e;have e':x.frm=y.loc:=e;have hf:¬ x.frm=z2q:=by rw[e'];exact h1.locNe hy
   rw[if_neg hf];exact .inl (List.mem_append.2 (.inr (by rw[List.mem_singleton,ep,e'])))
  ·have hs3:ze5 pl b y.path:=by
    rcases hs2 with h2 | ⟨z,h2,h3 | h3⟩
    ·exact .inl h2
    ·exact .inr ⟨z,h2,.inl h3⟩
    ·rcases zjn h3 with h3 | h3
     ·exact absurd h3 ep
     ·exact .inr ⟨z,h2,.inr h3⟩
   rcases h.done y hy hs3 with h2 | h2 | h2
   ·refine .inl ?_;split
    ·exact h2
    ·exact List.mem_append.2 (.inl h2)
   ·exact .inr (.inl (zjq h2))
   ·exact .inr (.inr h2)
 ·obtain⟨o1,o2⟩:=zjo e2;rcases List.mem_append.1 hy with hy | hy
  ·exact h.shut y hy e1 o2 e3 e4
  ·rw[List.mem_singleton] at hy;subst hy;exact absurd rfl o1
theorem bk_end {p l:ByteArray}{pr:List Syn}(h1:zek hs)(h:BkIn hs pl b Q p l pr)(hall:∀ x∈pl,x.dst≠z2q→x.dst=l→x∈pr):BkSt hs pl b Q:=
 ⟨h.sound,h.que,fun y hy hs2=>by
  rcases h.done y hy hs2 with h2 | h2 | ⟨h2,h3⟩
  ·exact .inl h2
  ·exact .inr h2
  ·refine .inr fun x hx e1 e2 e3 e4=>?_;rw[h3] at e4;rw[h2];exact h.shut x (hall x hx e3 e4) e1 e2 e3 e4⟩
theorem bk_over (h:BkSt hs pl b []):b=blB hs pl:=
 ze6 h.sound fun x hx h1 h2 h3 f hf h4 h5 h6=>by
  rcases h.done f hf h6 with h7 | h7
  ·cases h7
  ·exact h5 (h7 x hx h1 h2 h3 h4.symm).symm
def zjs (b:ByteArray→Bool)(pl:List Syn):Nat:=(pl.filter fun x=>!z3t x.kind && !b x.path).length
theorem zjt {x:Syn}(hx:x∈pl)(hk:z3t x.kind=false)(hb:b x.path=false):zjs (setB b x.path) pl+1≤zjs b pl:=by
 unfold zjs;induction pl with
 | nil=>cases hx
 | cons y pl ih =>
  have le:∀ l:List Syn,(l.filter fun z=>!z3t z.kind && !(setB b x.path) z.path).length≤(l.filter fun z=>!z3t z.kind && !b z.path).length:=by
   intro l;induction l with
   | nil=>exact Nat.le_refl _
   | cons z l ih =>
    rw[List.filter_cons,List.filter_cons];by_cases c:(!z3t z.kind && !(setB b x.path) z.path)=true
    ·have c2:(!z3t z.kind && !b z.path)=true:=by
      simp only[Bool.and_eq_true,Bool.not_eq_true'] at c ⊢
      exact⟨c.1,(zjo c.2).2⟩
     rw[if_pos c,if_pos c2];exact Nat.succ_le_succ ih
    ·rw[if_neg c];split
     ·exact Nat.le_succ_of_le ih
     ·exact ih
  rw[List.filter_cons,List.filter_cons];by_cases e:y.path=x.path
  ·have c1:¬(!z3t y.kind && !(setB b x.path) y.path)=true:=by rw[e,zjm];simp
   rw[if_neg c1];rcases List.mem_cons.1 hx with rfl | hx
   ·have c2:(!z3t x.kind && !b x.path)=true:=by rw[hk,hb];rfl
    rw[if_pos c2];exact Nat.succ_le_succ (le pl)
   ·split
    ·exact Nat.le_succ_of_le (ih hx)
    ·exact ih hx
  ·have hx':x∈pl:=by
    rcases List.mem_cons.1 hx with rfl | h
    ·exact absurd rfl e
    ·exact h
   have same:(setB b x.path) y.path=b y.path:=by unfold setB;rw[decide_eq_false e,Bool.false_or]
   rw[same];split
   ·exact Nat.succ_le_succ (ih hx')
   ·exact ih hx'
end
end Go.Proofs.YtijghobkkdbhnaaGreatDoor
/- Lists of have-entries and of steps as arguments under an Upto bound: their texts are short, they are not long. -/
namespace Go.Proofs.YtijghobkkdbhnaaGreatDoor.upto
open Go.RowKit Go.ChangeShapes Go.WideShapes Go.Deep
theorem zra {H:Type}(d:DataW H):1≤Rows.uptoBulk d:=by
 cases d with
 | lit l=>cases l <;> simp [Rows.uptoBulk]
 | nil=>simp [Rows.uptoBulk]
 | ptr d=>simp [Rows.uptoBulk]
 | slice elems spare=>simp [Rows.uptoBulk]
 | agg parts=>simp [Rows.uptoBulk]
 | iface t d=>simp [Rows.uptoBulk]
 | map entries=>simp [Rows.uptoBulk]
 | held h=>simp [Rows.uptoBulk]
theorem zrb {H:Type}{d:DataW H}{l:List (DataW H)}(h:d∈l):Rows.uptoBulk d≤Rows.uptoBulkAll l:=by
 induction l with
 | nil=>cases h
 | cons x r ih =>
  simp only[Rows.uptoBulkAll]
  rcases List.mem_cons.1 h with e | e
  ·subst e;omega
  ·have:=ih e;omega
theorem all_le {H:Type}{M:Nat}{l:List (DataW H)}(h:∀ d∈l,M≤Rows.uptoBulk d):l.length * M≤Rows.uptoBulkAll l:=by
 induction l with
 | nil=>simp [Rows.uptoBulkAll]
 | cons x r ih =>
  simp only[Rows.uptoBulkAll,List.length_cons,Nat.succ_mul]
  have h1:=h x (List.mem_cons_self ..);have h2:=ih (fun d hd=>h d (List.mem_cons_of_mem _ hd));omega
theorem zrc {α:Type}{p:Nat→α→Prop}:∀(n:Nat),(∀ i,i<n→∃ x,p i x)→∃ l:List α,l.length=n∧∀ i (h:i<l.length),p i l[i]
 | 0,_=>⟨[],rfl,fun i h=>absurd h (by simp)⟩
 | n+1,h=>by
  obtain⟨l,hl,hp⟩:=zrc n (fun i hi=>h i (by omega))
  obtain⟨x,hx⟩:=h n (by omega)
  refine⟨l++[x],by simp [hl],fun i hi=>?_⟩
  by_cases hil:i<l.length
  ·rw[List.getElem_append_left hil];exact hp i hil
  ·have:i=n:=by simp at hi;omega
   subst this;rw[List.getElem_append_right (by omega)];simpa using hx
section
variable {H : Type} {enc : TypeId × Value → H} {P : Program} {w : World} {spare : Nat → Bool} {held : Bool}
def Rd {α:Type}(enc:TypeId×Value→H)(P:Program)(w:World)(spare:Nat→Bool)(held:Bool)(e:TypeId)(f:α→List Value)(Pr:α→Prop)(M:Nat):Prop:=
 ∀ n cs y,DataW.trod enc P w 0 spare held n e cs=some y→Rows.uptoBulk y.1≤1048576→M≤Rows.uptoBulk y.1∧∃ x,cs=f x∧Pr x
theorem zrd {t:TypeId}(ht:P.underlying t=some .string):Rd enc P w spare held t (fun s:ByteArray=>[.string s]) (fun s=>s.size≤1048576) 1:=fun n cs y h hw=>by
 obtain⟨s,e,hy,hs⟩:=DataW.trod_string ht h;refine⟨zra _,s,e,?_⟩;subst hy;simp only[Rows.uptoBulk] at hw
 have h2:s.data.toList.length=s.size:=rfl;first | omega | (simp at hw;omega)
theorem rd_int {t:TypeId}{k:IntKind}(ht:P.underlying t=some (.int k)):Rd enc P w spare held t (fun n:Int=>[.int k n]) (fun n=>(Lit.int k n).wf=true) 1:=fun n cs y h _=>by
 obtain⟨s,e,_,hs⟩:=DataW.trod_int ht h;exact⟨zra _,s,e,hs⟩
theorem zre {e:TypeId}{fs:Array Field}{cs:List Value}{n:Nat}{y:DataW H×List MemPlace}(he:P.underlying e=some (.struct fs))(h:DataW.trod enc P w 0 spare held n e cs=some y)(hw:Rows.uptoBulk y.1≤1048576):
  fs.size+1≤Rows.uptoBulk y.1∧cs.length=P.cellsOf e∧∀(i:Nat) (f:Field) (T:TypeId) (off k:Nat),fs[i]? = some f→f.type=T→f.offset=off→P.cellsOf T=k →
   ∃ n' y',DataW.trod enc P w 0 spare held n' T ((cs.drop off).take k)=some y'∧Rows.uptoBulk y'.1≤1048576:=by
 obtain⟨ys,n',_,hy,hl,hlen,hfld⟩:=DataW.trod_struct he h;refine⟨?_,hl,fun i f T off k hf hT ho hk=>?_⟩
 ·rw[hy];simp only[Rows.uptoBulk]
  have:=all_le (M:=1) (l:=ys.map (·.1)) (fun d _=>zra d);rw[List.length_map] at this;omega
 ·have:=hfld i f hf;have hi:=(Array.getElem?_eq_some_iff.1 hf).1;rw[List.getElem?_eq_getElem (by omega)] at this
  rw[hT,ho,hk] at this;refine⟨n',_,this,?_⟩;rw[hy] at hw;simp only[Rows.uptoBulk] at hw
  have h3:(ys[i]'(by omega)).1∈ys.map (·.1):=List.mem_map_of_mem (List.getElem_mem _)
  have:=zrb h3;omega
theorem zrf {α:Type}{f:α→List Value}{Pr:α→Prop}{k M:Nat}{t e:TypeId}(hf:∀ x,(f x).length=k)(hk:0<k)(ht:P.underlying t=some (.slice e))(hC:P.cellsOf e=k)(hR:Rd enc P w spare held e f Pr M):
  ∀ n cs y,DataW.trod enc P w 0 spare held n t cs=some y→Rows.uptoBulk y.1≤1048576→∃(v:Value) (l:List α),cs=[v]∧l.length * M≤1048576∧(∃ A c,v=.slice A l.length c)∧Row w k v l.length (l.flatMap f)∧∀ x∈l,Pr x:=by
 intro n cs y h hw;rcases open_slice ht h with⟨rfl,_⟩ | ⟨x,len,cap,m,nf,D,Pl,rfl,_,hl,hm,hmm,hy,hi⟩
 ·exact⟨_,[],rfl,by simp,⟨none,0,rfl⟩,Row.nil_ w k,by simp⟩
 ·have hnm:len≤m:=by rw[hmm];split <;> omega
  rw[hy] at hw;simp only[Rows.uptoBulk] at hw
  have hsm:∀ i,i<len→Rows.uptoBulk (D i)≤1048576:=fun i hin=>by
   have h3:D i∈(List.range len).map D:=List.mem_map.2 ⟨i,List.mem_range.2 hin,rfl⟩;have h4:=zrb h3;omega
  obtain⟨l,hll,hp⟩:=zrc (α:=α) (p:=fun i q=>M≤Rows.uptoBulk (D i)∧(∀ j u,(f q)[j]? = some u→w.cell? (x.add (i * k+j))=some u)∧Pr q) len (fun i hin=>by
   obtain⟨cs',hcc,htr⟩:=hi i (by omega)
   rw[hC] at hcc;obtain⟨_,hcl,hat⟩:=World.cells?_some hcc;obtain⟨hM,q,rfl,hq⟩:=hR _ _ _ htr (hsm i hin);refine⟨q,hM,fun j u hu=>?_,hq⟩;have hj:j<k:=by rw[← hf q];exact (List.getElem?_eq_some_iff.1 hu).1
   have:=hat j (by omega)
   rw[z01] at this;rw[this];first | exact hu | (simpa using hu))
  refine⟨_,l,rfl,?_,⟨some x,cap,by rw[hll]⟩,?_,fun q hq=>?_⟩
  ·have h5:=all_le (M:=M) (l:=(List.range len).map D) (fun d hd=>by
    obtain⟨i,hi',rfl⟩:=List.mem_map.1 hd;have:=List.mem_range.1 hi';exact (hp i (by omega)).1)
   rw[List.length_map,List.length_range] at h5;rw[hll];omega
  ·rw[hll];refine⟨_,_,rfl,hl,hm,by rw[z4a f k hf,hll],fun h=>(by cases h),fun hn=>⟨x,rfl,?_,fun j u hu=>?_⟩⟩
   ·have h0:0<(f (l[0]'(by omega))).length:=by rw[hf];exact hk
    have:=(hp 0 (by omega)).2.1 0 _ (List.getElem?_eq_getElem h0)
    exact (z00 x _) ▸ z03 this
   ·have hjl:j<len * k:=by have:=(List.getElem?_eq_some_iff.1 hu).1;rwa [z4a f k hf,hll] at this
    have hq:j / k<l.length:=by rw[hll,Nat.div_lt_iff_lt_mul hk];exact hjl
    have hr:j % k<k:=Nat.mod_lt _ hk;have e1:j / k * k+j % k=j:=by rw[Nat.mul_comm];exact Nat.div_add_mod j k
    have e2:=z4b f k hf l (j / k) (j % k) hq hr;rw[e1,hu] at e2;have:=(hp (j / k) hq).2.1 (j % k) u e2.symm;rwa [e1] at this
  ·obtain⟨i,hil,rfl⟩:=List.mem_iff_getElem.1 hq;exact (hp i hil).2.2
end
section
variable {H : Type} {enc : TypeId × Value → H}
theorem rd_syn (w:World)(spare:Nat→Bool)(held:Bool):Rd enc Tryz.prog w spare held 50 Syn.cells (fun x=>x.path.size≤1048576∧x.frm.size≤1048576∧x.dst.size≤1048576) 6:=by
 intro n cs y h hw;obtain⟨hM,hl0,hF⟩:=zre Tryz.underlying50 h hw;have hl:cs.length=5:=hl0.trans (by kernel_rfl)
 obtain⟨n0,y0,h0,wh0⟩:=hF 0 _ 3 0 1 rfl rfl rfl (by kernel_rfl)
 obtain⟨-,a0,e0,p0⟩:=rd_int Tryz.underlying3 _ _ _ h0 wh0;obtain⟨n1,y1,h1,wh1⟩:=hF 1 _ 9 1 1 rfl rfl rfl (by kernel_rfl)
 obtain⟨-,a1,e1,p1⟩:=zrd Tryz.underlying9 _ _ _ h1 wh1;obtain⟨n2,y2,h2,wh2⟩:=hF 2 _ 3 2 1 rfl rfl rfl (by kernel_rfl)
 obtain⟨-,a2,e2,p2⟩:=rd_int Tryz.underlying3 _ _ _ h2 wh2;obtain⟨n3,y3,h3,wh3⟩:=hF 3 _ 9 3 1 rfl rfl rfl (by kernel_rfl)
 obtain⟨-,a3,e3,p3⟩:=zrd Tryz.underlying9 _ _ _ h3 wh3;obtain⟨n4,y4,h4,wh4⟩:=hF 4 _ 9 4 1 rfl rfl rfl (by kernel_rfl)
 obtain⟨-,a4,e4,p4⟩:=zrd Tryz.underlying9 _ _ _ h4 wh4;refine⟨hM,?_⟩;clear h hw hF hM hl0 h0 wh0 h1 wh1 h2 wh2 h3 wh3 h4 wh4;match cs,hl with
 | [u0,u1,u2,u3,u4],_ =>
  have e0':[u0]=_:=e0;have e1':[u1]=_:=e1;have e2':[u2]=_:=e2;have e3':[u3]=_:=e3;have e4':[u4]=_:=e4;clear e0 e1 e2 e3 e4;simp only[List.cons.injEq,and_true] at e0' e1' e2' e3' e4'
  subst e0' e1' e2' e3' e4';exact⟨⟨a0,a1,a2,a3,a4⟩,rfl,p1,p3,p4⟩
theorem syns_arg {w:World}{r:Reach}{b0:Nat}{spare:Nat→Bool}{held:Bool}{v:Value}{d:DataW H}{p:List MemPlace}(hv:Value.okWide Tryz.prog w r b0 43 v)(h:DataW.Trod enc Tryz.prog w 0 spare held 43 v d p)(hw:Rows.uptoBulk d≤1048576):
  ∃(l:List Syn) (A:Option Addr) (c:Nat),v=.slice A l.length c∧z57 w (.slice A l.length c) l∧l.length * 6≤1048576∧∀ x∈l,x.path.size≤1048576∧x.frm.size≤1048576∧x.dst.size≤1048576:=by
 obtain⟨a,n,c,rfl⟩:=okWide_slice Tryz.underlying43 hv;obtain⟨m,hm⟩:=h;obtain⟨v',l,e,h1,⟨A,c',h2⟩,h3,h4⟩:=zrf (k:=5) (fun _=>rfl) (by decide) Tryz.underlying43 (by kernel_rfl) (rd_syn w spare held) _ _ _ hm hw
 simp only[Value.cells,List.cons.injEq,and_true] at e
 subst h2;injection e with e1 e2 e3
 subst e1 e2 e3;exact⟨l,_,_,rfl,h3,h1,h4⟩
end
end Go.Proofs.YtijghobkkdbhnaaGreatDoor.upto
