/- A part. -/
import Derived.Test.YtijghobkkdbhnaaGreatDoorMgw17
import Derived.Test.YtijghobkkdbhnaaGreatDoorMzDfB
import Derived.Test.YtijghobkkdbhnaaGreatDoorMgw16
import Derived.Deep.LoopGhost
set_option linter.unusedVariables false
set_option linter.unusedSimpArgs false
set_option maxHeartbeats 4000000
set_option maxRecDepth 100000
namespace Go.Proofs.YtijghobkkdbhnaaGreatDoor
open Go.Proofs.Tryz
open Go.RowKit
theorem zdm (p q:Pat)(A B:Option Addr)(a b:Nat)(hv hu:Value)(w:World)(hp:zae w (.slice A p.parts.length a) p)(hq:zae w (.slice B q.parts.length b) q)(hm:zan p q=none):
  Calls prog 68 #[.agg #[.slice A p.parts.length a,.bool p.rest,hv],.agg #[.slice B q.parts.length b,.bool q.rest,hu]] w fun e w'=>e=.returned (.bool false)∧Below w.heap.size w w':=by
 obtain⟨W1,hW1⟩:∃ W,W=(w.alloc (.cells #[.slice A p.parts.length a,.bool p.rest,hv] 78)).alloc (.cells #[.slice B q.parts.length b,.bool q.rest,hu] 78):=⟨_,rfl⟩;have hA:Below w.heap.size w W1:=by rw[hW1];exact ((Below.refl _ _).alloc (Nat.le_refl _) _).alloc (by simp) _
 have h2:Blk W1 w.heap.size 78 [.slice A p.parts.length a,.bool p.rest,hv]:=by rw[hW1];exact (z0l w _ _).alloc _
 have h3:Blk W1 (w.heap.size+1) 78 [.slice B q.parts.length b,.bool q.rest,hu]:=by
  rw[hW1];have:=z0l (w.alloc (.cells #[.slice A p.parts.length a,.bool p.rest,hv] 78)) [.slice B q.parts.length b,.bool q.rest,hu] 78;simp only[World.size_alloc] at this
  exact this
 have HME:=hd_ (zbw p q A B a b W1 (hp.below hA) (hq.below hA));have HM:=hd_ hm;have HA:=hd_ hA;have HW1:=hd_ hW1;obtain⟨x0,x1⟩:=(⟨h2.cell 0,h2.cell 1⟩:W1.cell? ⟨w.heap.size,0,none⟩=some (.slice A p.parts.length a)∧W1.cell? ⟨w.heap.size,1,none⟩=some (.bool p.rest));obtain⟨y0,y1⟩:=(⟨h3.cell 0,h3.cell 1⟩:W1.cell? ⟨w.heap.size+1,0,none⟩=some (.slice B q.parts.length b)∧W1.cell? ⟨w.heap.size+1,1,none⟩=some (.bool q.rest));clear hp hq hm hA hW1 h2 h3;go_enter func68,ntmps68;go_upto_region 1 with fail;rw[← HW1.out];go_wp2_with fail;refine HME.out.mono ?_;rintro e w4 ⟨hb,⟨-,rfl⟩ | ⟨m',A6,c6,hmm,-⟩⟩
 case inr=>rw[HM.out] at hmm;cases hmm
 have HB:=hd_ (z0r HA.out hb);have hX:Below w4.heap.size w4 (w4.alloc (.cells #[.slice none 0 0,.bool false] 68)):=(Below.refl _ _).alloc (Nat.le_refl _) _;have HB5:=hd_ (z0r HB.out hX);clear x0 x1 y0 y1 hb hX;go_upto_region 2 with fail;generalize w4.alloc (.cells #[.slice none 0 0,.bool false] 68)=W5 at HB5 ⊢;go_quiet (fail)
 go_wp2_with fail;go_ret;exact⟨rfl,HB5.out.trans ((z6x W5 _).mono HB5.out.size)⟩
def zgm (w:World)(U g m:Nat):Prop:=∃(l:List Int) (A:Option Addr) (c at':Nat),Blk w g 58 [.slice A l.length c,.int .i64 at']∧at'≤m∧Row w 1 (.slice A l.length c) l.length (l.map fun(n:Int)=>.int .i64 n)∧(∀ ad,A=some ad→ad.block≠g∧ad.block<U)∧g<U
theorem zgm.mono {w:World}{U g m m':Nat}(h:zgm w U g m)(hm:m≤m'):zgm w U g m':=by
 obtain⟨l,A,c,a,h1,h2,h3,h4⟩:=h;exact⟨l,A,c,a,h1,by omega,h3,h4⟩
theorem zgm.lt {w:World}{U g m:Nat}(h:zgm w U g m):g<w.heap.size:=by
 obtain⟨l,A,c,a,h1,-⟩:=h;exact h1.lt
theorem zgm.ltU {w:World}{U g m:Nat}(h:zgm w U g m):g<U:=by
 obtain⟨l,A,c,a,-,-,-,-,h1⟩:=h;exact h1
theorem zgm.below {w w':World}{U g m:Nat}(h:zgm w U g m)(hb:Below w.heap.size w w'):zgm w' U g m:=by
 obtain⟨l,A,c,a,h1,h2,h3,h4⟩:=h;exact⟨l,A,c,a,h1.below hb h1.lt,h2,h3.below hb,h4⟩
theorem zgm.keep {w w':World}{U g m:Nat}(h:zgm w U g m)(hs:w.heap.size≤w'.heap.size)(hk:∀ x,x<U→w'.heap[x]? = w.heap[x]?):zgm w' U g m:=by
 obtain⟨l,A,c,a,h1,h2,h3,h4,h5⟩:=h;refine⟨l,A,c,a,(hk g h5).trans h1,h2,?_,h4,h5⟩;obtain⟨A',c',e,hc,hm,hl,h00,hx⟩:=h3;refine⟨A',c',e,hc,hm,hl,h00,fun hn=>?_⟩;obtain⟨ad,e2,hb,hcell⟩:=hx hn;injection e with e3 e4 e5
 refine⟨ad,e2,by omega,fun j u hu=>?_⟩
 rw[← hcell j u hu];refine World.cell?_of_block (hk _ ?_);rw[z00];exact (h4 ad (e3.trans e2)).2
theorem row_at1 {w:World}{l:List Int}{A:Option Addr}{c k:Nat}(h:Row w 1 (.slice A l.length c) l.length (l.map fun(n:Int)=>.int .i64 n))(hk:k<l.length):∃ ad,A=some ad∧ad.block<w.heap.size∧w.cell? (ad.add k)=some (.int .i64 l[k]):=by
 obtain⟨A',c',e,hc,hm,hl,h0,hx⟩:=h;injection e with e1 e2 e3
 subst e1 e3;obtain⟨ad,rfl,hb,hcell⟩:=hx (by omega)
 refine⟨ad,rfl,hb,hcell k _ ?_⟩;rw[List.getElem?_map,List.getElem?_eq_getElem hk];rfl
theorem zgn (U g m:Nat)(n:Int)(w:World)(hT:zgm w U g m)(hm:m≤1000000)(hn:n≤1000000000):
  Calls prog 15 #[.pointer (some ⟨g,0,none⟩),.int .i64 n] w fun e w'=>∃ k,e=.returned (.int .i64 k)∧Under n k∧zgm w' U g (m+1)∧z6y [g] w w':=by
 obtain⟨l,A,c,a,hB,ha,hR,hne,hgU⟩:=hT;have x0:w.cell? ⟨g,0,none⟩=some (.slice A l.length c):=hB.cell 0;have x1:w.cell? ⟨g,1,none⟩=some (.int .i64 a):=hB.cell 1;have f1:w.frozen? ⟨g,1,none⟩=false:=hB.frozen 1;have h1:IntKind.i64.wrap ((a:Int) * 7)=(a:Int) * 7:=by rw[IntKind.wrap_i64];omega
 obtain⟨r,hr⟩:∃ r,((a:Int) * 7).tmod 11=r:=⟨_,rfl⟩;have hrb:=zgk ((a:Int) * 7) 11 (by omega)
 rw[hr] at hrb;have h2:IntKind.i64.wrap r=r:=by rw[IntKind.wrap_i64];omega
 have HR:=hd_ hR;have HB:=hd_ hB;have HNE:=hd_ hne;have HF:=hd_ (fun v X=>zgl v n X hn);have HEND:Hid (∀ X,Below w.heap.size w X→X.heap.size=w.heap.size→zgm (X.setCell ⟨g,1,none⟩ (.int .i64 ((a:Int)+1))) U g (m+1)∧z6y [g] w (X.setCell ⟨g,1,none⟩ (.int .i64 ((a:Int)+1)))):=hd_ (fun X hX hs=>by
  refine⟨⟨l,A,c,a+1,(hB.below hX hB.lt).set_ 1 _,by omega,?_,hne,hgU⟩,(z6y.below hX).trans (z6y.grown (z6z X g 1 _) (by simp))⟩
  refine Row.set_far (hR.below hX) ?_;intro e;cases A with
  | none=>cases e
  | some ad=>exact (hne ad rfl).1 (by simpa [Value.ownBlock] using e))
 have ham:a≤1000000:=by omega
 clear hB hR hne hn hrb hm ha;go_enter func15,ntmps15;go_upto_region 2 with fail;by_cases hlt:a<l.length
 ·have q:decide ((a:Int)<(l.length:Int))=true:=by simp;omega
  obtain⟨ad,rfl,hab,s0⟩:=row_at1 HR.out hlt;generalize l[a]=v at s0;have hz:(a:Int)<(l.length:Int):=by omega
  have hw3:IntKind.i64.wrap ((a:Int)+1)=(a:Int)+1:=by rw[IntKind.wrap_i64];omega
  clear hab hlt;go_quiet (fail)
  go_upto_region 3 with fail;go_quiet (fail)
  go_wp2_with fail;refine (HF.out v _).mono ?_;rintro e w' ⟨k,rfl,hk,rfl⟩;go_wp2_with fail;go_ret;exact⟨k,rfl,hk,HEND.out _ (z6x w _) rfl⟩
 ·have q:decide ((a:Int)<(l.length:Int))=false:=by simp;omega
  have q':decide (a<l.length)=false:=by simp;omega
  have hz:¬((a:Int)<(l.length:Int)):=by omega
  have hw3:IntKind.i64.wrap ((a:Int)+1)=(a:Int)+1:=by rw[IntKind.wrap_i64];omega
  clear hlt;go_quiet (fail)
  go_wp2_with fail;refine (HF.out r _).mono ?_;rintro e w' ⟨k,rfl,hk,rfl⟩;go_wp2_with fail;go_ret;exact⟨k,rfl,hk,HEND.out _ (z6x w _) rfl⟩
theorem zi3 (r:Rev)(w:World):Calls prog 39 #[.agg #[.string r.path,.int .i64 r.num,.int .i64 r.chg,.int .i64 r.act,.int .i64 r.ty.base,.bool r.ty.k,.bool r.ty.l,.bool r.ty.x,.int .u64 r.sum,.int .i64 r.size,.string r.frm,.int .i64 r.fnum]] w fun e w'=>e=.returned (.bool (!z2v r.act))∧Below w.heap.size w w':=by
 have hA:Below w.heap.size w (w.alloc (.cells #[.string r.path,.int .i64 r.num,.int .i64 r.chg,.int .i64 r.act,.int .i64 r.ty.base,.bool r.ty.k,.bool r.ty.l,.bool r.ty.x,.int .u64 r.sum,.int .i64 r.size,.string r.frm,.int .i64 r.fnum] 90)):=(Below.refl _ _).alloc (Nat.le_refl _) _;by_cases h3:r.act=3
 ·have q:(r.act == 3)=true:=by simpa using h3
  have HL:Hid ((!z2v r.act)=true):=hd_ (by rw[h3];rfl)
  clear h3;go_enter func39,ntmps39;go_wp2_with fail;go_ret;exact⟨z0w HL.out.symm,hA⟩
 ·have q:(r.act == 3)=false:=by simpa using h3
  by_cases h5:r.act=5
  ·have q5:(r.act == 5)=true:=by simpa using h5
   have HL:Hid ((!z2v r.act)=true):=hd_ (by rw[h5];rfl)
   clear h3 h5;go_enter func39,ntmps39;go_wp2_with fail;go_ret;exact⟨z0w HL.out.symm,hA⟩
  ·have q5:(r.act == 5)=false:=by simpa using h5
   have HL:Hid ((!z2v r.act)=false):=hd_ (by unfold z2v;simp [h3,h5])
   clear h3 h5;go_enter func39,ntmps39;go_wp2_with fail;go_ret;exact⟨z0w HL.out.symm,hA⟩
def zjf (w:World)(B:Nat)(v:Value)(l:List Syn):Prop:=w.ownsRow B 50 5 v l.length (l.flatMap Syn.cells)
def zjg (q:Int)(x:Syn):Syn:={ x with kind:=q }
theorem zjh (q:Int):∀(l:List Syn) (k:Nat) (hk:k<l.length),(l.set k (zjg q l[k])).flatMap Syn.cells=(l.flatMap Syn.cells).set (k * 5) (.int .i64 q)
 | [],k,hk=>absurd hk (by simp)
 | x :: r,0,_=>rfl
 | x :: r,k+1,hk=>by
  have ih:=zjh q r k (by simpa using hk)
  have e:(k+1) * 5=k * 5+5:=by omega
  rw[List.getElem_cons_succ,List.set_cons_succ,List.flatMap_cons,List.flatMap_cons,ih,e];rfl
theorem zjf.slice {w:World}{B:Nat}{v:Value}{l:List Syn}(h:zjf w B v l)(hk:0<l.length):∃ g c,v=.slice (some ⟨g,0,none⟩) l.length c∧B≤g∧g<w.heap.size:=by
 obtain⟨-,h2 | ⟨g,cap,cur,e1,h3,h4,-⟩⟩:=h
 ·omega
 ·exact⟨g,cap,e1,h3,(Array.getElem?_eq_some_iff.1 h4).1⟩
theorem zjf.cell {w:World}{B g c n:Nat}{l:List Syn}(h:zjf w B (.slice (some ⟨g,0,none⟩) n c) l){k:Nat}(hk:k<l.length):
  z50 w ⟨g,k * 5,none⟩ l[k]∧w.frozen? ⟨g,k * 5,none⟩=false:=by
 have hn:n=l.length:=by
  obtain⟨A,c',e⟩:=z0o h;injection e
 subst hn;have hat:∀ j u,j<5→l[k].cells[j]? = some u→(l.flatMap Syn.cells)[k * 5+j]? = some u:=by
  intro j u hj hu;rw[z44 Syn.cells 5 (fun _=>rfl) l k j hk hj];exact hu
 have h0:=zah h (j:=k * 5) (hat 0 _ (by omega) rfl)
 exact⟨⟨h0.1,(zah h (j:=k * 5+1) (hat 1 _ (by omega) rfl)).1,(zah h (j:=k * 5+2) (hat 2 _ (by omega) rfl)).1,(zah h (j:=k * 5+3) (hat 3 _ (by omega) rfl)).1,(zah h (j:=k * 5+4) (hat 4 _ (by omega) rfl)).1⟩,h0.2.1⟩
theorem zjf.put {w:World}{B g c n:Nat}{l:List Syn}(h:zjf w B (.slice (some ⟨g,0,none⟩) n c) l){k:Nat}(hk:k<l.length)(q:Int):
  zjf (w.setCell ⟨g,k * 5,none⟩ (.int .i64 q)) B (.slice (some ⟨g,0,none⟩) n c) (l.set k (zjg q l[k])):=by
 have hn:n=l.length:=by
  obtain⟨A,c',e⟩:=z0o h;injection e
 subst hn;unfold zjf;rw[List.length_set,zjh q l k hk];exact zag h _
def zjl (w:World)(base:Nat)(e:TypeId)(size:Nat)(v:Value)(n:Nat)(xs:List Value):Prop:=
  xs.length=n * size ∧
  ((v=.slice none 0 0∧n=0) ∨
   ∃ g off cap cur,v=.slice (some ⟨g,off,none⟩) n cap∧base≤g∧w.heap[g]? = some (.cells cur e (0,0))∧n≤cap∧cap≤maxLen∧off+cap * size≤cur.size∧(cur.toList.drop off).take (n * size)=xs)
section
variable {w w' : World} {base : Nat} {e : TypeId} {size n : Nat} {v : Value} {xs : List Value}
theorem zjl.of_own (h:w.ownsRow base e size v n xs):zjl w base e size v n xs:=by
  refine⟨h.1,?_⟩;rcases h.2 with h2 | ⟨g,cap,cur,e1,h3,h4,h5,h6,h7,h8⟩
  · exact .inl h2
  · exact .inr ⟨g,0,cap,cur,e1,h3,h4,h5,h6,by omega,by rw[List.drop_zero];exact h8⟩
theorem zjl.lt (h:zjl w base e size v n xs):∀ k,v.ownBlock=some k→base≤k∧k<w.heap.size:=by
  intro k hk;rcases h.2 with⟨rfl,_⟩ | ⟨g,off,cap,cur,rfl,hb,hg,_⟩
  · cases hk
  · injection hk with hk
    subst hk;exact⟨hb,(Array.getElem?_eq_some_iff.1 hg).1⟩
theorem zjl.keepAt (h:zjl w base e size v n xs)(hk:∀ x,v.ownBlock=some x→w'.heap[x]? = w.heap[x]?):zjl w' base e size v n xs:=by
  refine⟨h.1,?_⟩;rcases h.2 with h2 | ⟨g,off,cap,cur,e1,h3,h4,h5⟩
  · exact .inl h2
  · exact .inr ⟨g,off,cap,cur,e1,h3,(hk g (by rw[e1];rfl)).trans h4,h5⟩
theorem zjl.below (h:zjl w base e size v n xs)(hb:Below w.heap.size w w'):zjl w' base e size v n xs:=h.keepAt fun x hx=>hb.block x (h.lt x hx).2
theorem zjl.setCell (h:zjl w base e size v n xs){p:Addr}(hne:v.ownBlock≠some p.block)(u:Value):zjl (w.setCell p u) base e size v n xs:=
  h.keepAt fun x hx=>Below.heap_setCell w p u x fun e=>hne (by rw[hx,← e])
theorem zjl.row (h:zjl w base e size v n xs):Row w size v n xs:=by
  have hl:=h.1;rcases h.2 with⟨rfl,rfl⟩ | ⟨g,off,cap,cur,rfl,_,hg,hnc,hcm,hs,ht⟩
  · exact⟨none,0,rfl,Nat.le_refl _,by simp [maxLen],hl,fun _=>rfl,fun h=>absurd h (by omega)⟩
  · refine⟨_,cap,rfl,hnc,hcm,hl,fun h=>(by cases h),fun _=>⟨_,rfl,(Array.getElem?_eq_some_iff.1 hg).1,fun j u hu=>?_⟩⟩
    rw[Addr.add_lit,cell_of_row w g _ cur e (0,0) hg];rw[← ht,List.getElem?_take] at hu;split at hu
    · rw[List.getElem?_drop] at hu
      simpa using hu
    · cases hu
theorem zjl.tail {ad:Addr}{c:Nat}(h:zjl w base e size (.slice (some ad) (n+1) c) (n+1) xs):zjl w base e size (.slice (if c=1 then some ad else some ⟨ad.block,ad.off+size,none⟩) n (c - 1)) n (xs.drop size):=by
  obtain⟨hl,⟨h1,h2⟩ | ⟨g,off,cap,cur,e1,h3,h4,h5,h6,h7,h8⟩⟩:=h
  · omega
  injection e1 with e1 e2 e3
  injection e1 with e1
  subst e1 e3;have hm:(n+1) * size=n * size+size:=Nat.succ_mul n size;refine⟨by rw[List.length_drop,hl,hm];omega,.inr ?_⟩
  by_cases hc:c=1
  · have hn:n=0:=by omega
    subst hn;rw[if_pos hc];refine⟨g,off,c - 1,cur,rfl,h3,h4,by omega,by omega,by rw[hc];omega,?_⟩
    rw[Nat.zero_mul,List.take_zero];refine (List.eq_nil_of_length_eq_zero ?_).symm;rw[List.length_drop,hl];omega
  · rw[if_neg hc]
    have hcm:c * size=(c - 1) * size+size:=by
      have h9:c=(c - 1)+1:=by omega
      conv=>lhs;rw[h9,Nat.succ_mul]
    refine⟨g,off+size,c - 1,cur,rfl,h3,h4,by omega,by omega,by omega,?_⟩
    rw[← h8,hm,← List.drop_drop,List.drop_take,show n * size+size - size=n * size by omega]
theorem zjm {P:Program}(w:World)(t ty e:TypeId)(i:TypeInfo)(ht:P.underlying t=some (.slice e))(hi:P.info? e=some i)
    (g off sLen sCap:Nat) (cur:Array Value) (hg:w.heap[g]? = some (.cells cur e (0,0)))
    (a:Addr) (m c:Nat) (news:List Value) (hl:news.length=m * i.size) (hnews:∀ j u,news[j]? = some u→w.cell? (a.add j)=some u) (h1:∀ u∈news,u.oneCell'=true)
    (hroom:sLen+m≤sCap) (hfit:off+sLen * i.size+news.length≤cur.size):
    (Builtin.append_ #[t,t] ty #[.slice (some ⟨g,off,none⟩) sLen sCap,.slice (some a) m c]).run P w =
      .ok (.slice (some ⟨g,off,none⟩) (sLen+m) sCap) (w.setRow g (cur.toList.take (off+sLen * i.size)++news++cur.toList.drop (off+sLen * i.size+news.length)).toArray):=by
  have hf:=run_firstCells_some (P:=P) w i.size m a m c news hl hnews;have hst:=run_storeCells_at P g (off+sLen * i.size) e news 0 cur w hg (by simpa using hfit) h1
  simp only[Nat.add_zero] at hst
  simp [Builtin.append_,run_underlying ht,sizeOf,typeInfo,hi,Builtin.lenOf,hroom,hf,Addr.add_lit,hst]
theorem zjn {P:Program}{W:World}{t ty e:TypeId}{size bytes base:Nat}(he:z0e P t e size bytes){v:Value}{n:Nat}{xs:List Value}(hown:zjl W base e size v n xs)
    {ad:Addr} {m c:Nat} {news:List Value} (hl:news.length=m * size) (hnews:∀ j u,news[j]? = some u→W.cell? (ad.add j)=some u) (h1:∀ u∈news,u.oneCell'=true) (hm:0<m) (hbytes:(n+m) * bytes≤140737488355328) (h63:n+m≤maxLen) (hbase:base≤W.heap.size):
    ∃ A' c' w',(Builtin.append_ #[t,t] ty #[v,.slice (some ad) m c]).run P W=.ok (.slice A' (n+m) c') w'∧zjl w' base e size (.slice A' (n+m) c') (n+m) (xs++news)∧W.grownBy w' v.ownBlock ∧
      ((Value.slice A' (n+m) c').ownBlock=v.ownBlock∨(Value.slice A' (n+m) c').ownBlock=some W.heap.size):=by
  rcases hown.2 with⟨rfl,rfl⟩ | ⟨g,off,cap,cur,rfl,hbg,hg,hnc,hcm,hcs,htake⟩
  · have ho:W.ownsRow base e size (.slice none 0 0) 0 xs:=⟨hown.1,.inl ⟨rfl,rfl⟩⟩
    obtain⟨i,z,ht,hi,hz,hsize,hby,hzs,hsz⟩:=he;obtain⟨v',w',hr,h2,h3,h4,h5⟩:=run_append_own_at (P:=P) W base t ty e i z size bytes ht hi hz hsize hby hzs hsz _ 0 xs ho ad m c news hl hnews h1 h63 hbytes hbase;rcases h2.2 with⟨e1,e2⟩ | ⟨g,cap,cur,e1,_⟩
    · omega
    · subst e1
      exact⟨_,_,w',hr,zjl.of_own h2,h3,h5⟩
  · obtain⟨i,z,ht,hi,hz,hsize,hby,hzs,hsz⟩:=he
    subst hsize;subst hby;have hsmall:n+m≤9223372036854775807:=by simp only[maxLen] at h63;omega
    have hlen:(xs++news).length=(n+m) * i.size:=by rw[List.length_append,hown.1,hl,Nat.add_mul]
    by_cases hroom:n+m≤cap
    · have hmul:(n+m) * i.size≤cap * i.size:=Nat.mul_le_mul_right _ hroom
      rw[Nat.add_mul] at hmul;have hfit:off+n * i.size+news.length≤cur.size:=by omega
      have hr:=zjm (P:=P) W t ty e i ht hi g off n cap cur hg ad m c news hl hnews h1 hroom hfit;refine⟨_,_,_,hr,⟨hlen,.inr ⟨g,off,cap,_,rfl,hbg,setRow_heap W g cur _ e _ hg,hroom,hcm,?_,?_⟩⟩,⟨rfl,rfl,rfl,by simp,fun k _ hk=>setRow_other W g k _ (fun e=>hk (by simp [Value.ownBlock,e]))⟩,Or.inl rfl⟩
      · simp only[List.size_toArray,List.length_append,List.length_take,List.length_drop,Array.length_toList]
        omega
      · have hx:cur.toList.take (off+n * i.size)=cur.toList.take off++xs:=by rw[List.take_add,htake]
        show ((cur.toList.take (off+n * i.size)++news++cur.toList.drop (off+n * i.size+news.length)).drop off).take ((n+m) * i.size)=xs++news
        rw[hx,List.append_assoc,List.append_assoc,List.drop_left' (by rw[List.length_take,Array.length_toList];omega),← List.append_assoc,← hlen]
        exact List.take_left
    · have hfit:Builtin.nextslicecap (n+m) cap * i.bytes≤281474976710656:=growslice_fits (by omega) hbytes
      have holds:∀ j u,xs[j]? = some u→W.cell? ((⟨g,off,none⟩:Addr).add j)=some u:=by
        obtain⟨A',c',e1,-,-,-,-,h9⟩:=hown.row;injection e1 with e1
        intro j u hj;rcases Nat.eq_zero_or_pos n with h0 | h0
        · have hx:xs=[]:=List.eq_nil_of_length_eq_zero (by rw[hown.1,h0];simp)
          rw[hx] at hj;simp at hj
        · obtain⟨ad',e2,-,h10⟩:=h9 h0
          rw[← e1] at e2;injection e2 with e2
          subst e2;exact h10 j u hj
      have hr:=run_append_grow (P:=P) W t ty e i z ht hi hz ⟨g,off,none⟩ n cap xs hown.1 holds ad m c news hl hnews (by omega) (by omega) hfit
      have hge:=grownCap_ge W (n+m) cap e;have hcm:=grownCap_le_maxLen W (n+m) cap e h63;refine⟨_,_,_,hr,⟨hlen,.inr ⟨W.heap.size,0,_,_,rfl,hbase,heap_alloc_new W.drew _,hge,hcm,?_,?_⟩⟩,⟨rfl,rfl,rfl,by simp,fun k hk _=>heap_alloc_old W.drew _ hk⟩,Or.inr rfl⟩
      · simp only[Array.size_append,List.size_toArray,size_zeroCells,hzs,hown.1,hl,← Nat.add_mul]
        refine Nat.le_of_eq ?_;rw[Nat.zero_add];congr 1
        omega
      · rw[List.drop_zero]
        simp only[Array.toList_append,List.append_assoc]
        rw[← List.append_assoc,← hlen];exact List.take_left
end
def zkz:List ByteArray:=[⟨#[47,47,99,47,97]⟩,⟨#[47,47,99,47,98]⟩,⟨#[47,47,99,47,120,47,97]⟩,⟨#[47,47,99,47,120,47,98]⟩,⟨#[47,47,119,47,97]⟩,⟨#[47,47,99,47,101]⟩,⟨#[47,47,99,47,120,47,122]⟩,⟨#[47,47,113,47,113]⟩]
theorem zl0:∀ p∈zkz,z3q p=true:=by decide +kernel
structure zl1 (x y:Hav):Prop where
 path:y.path=x.path
 loc:z3q y.loc=true
 num:1≤y.num∧y.num≤x.num+1
structure HvSt (l:List Hav)(k:Nat)(out:List Hav):Prop where
 srt:z6c out
 ok:∀ x∈out,x.okB=true
 one:∀ x∈out,∀ y∈out,x.loc=y.loc→x.path=y.path
 of:∀ x∈out,∃(j:Nat) (hj:j<l.length),j<k∧x.path=l[j].path
 len:out.length≤k
theorem hv_0 (l:List Hav):HvSt l 0 []:=⟨List.Pairwise.nil,(fun x h=>by cases h),(fun x h=>by cases h),(fun x h=>by cases h),Nat.le_refl _⟩
theorem hv_skip {l out:List Hav}{k:Nat}(h:HvSt l k out):HvSt l (k+1) out:=
 ⟨h.srt,h.ok,h.one,(fun x hx=>by obtain⟨j,hj,h1,h2⟩:=h.of x hx;exact⟨j,hj,by omega,h2⟩),Nat.le_succ_of_le h.len⟩
theorem hv_put {l out:List Hav}{k:Nat}{y:Hav}(h:HvSt l k out)(hl:zf6 l)(hk:k<l.length)(hy:zl1 l[k] y)(hn:∀ x∈out,x.loc≠y.loc):HvSt l (k+1) (out++[y]):=by
 refine⟨?_,fun x hx=>?_,fun a ha b hb e=>?_,fun x hx=>?_,by rw[List.length_append];exact Nat.succ_le_succ h.len⟩
 ·refine z68 h.srt (List.pairwise_singleton _ _) fun a ha b hb=>?_;rw[List.mem_singleton] at hb;subst hb;obtain⟨j,hj,h1,h2⟩:=h.of a ha;rw[h2,hy.path];exact List.pairwise_iff_getElem.1 hl.srt j k hj hk h1
 ·rcases List.mem_append.1 hx with hx | hx
  ·exact h.ok x hx
  ·rw[List.mem_singleton] at hx;subst hx;have h0:=zf7 (hl.ok _ (List.getElem_mem hk));unfold Hav.okB;rw[hy.path,h0.1,hy.loc];have:=hy.num.1;simp
   omega
 ·rcases List.mem_append.1 ha with ha1 | ha1
  ·rcases List.mem_append.1 hb with hb1 | hb1
   ·exact h.one a ha1 b hb1 e
   ·rw[List.mem_singleton] at hb1;rw[hb1] at e;exact absurd e (hn a ha1)
  ·rw[List.mem_singleton] at ha1;rcases List.mem_append.1 hb with hb1 | hb1
   ·rw[ha1] at e;exact absurd e.symm (hn b hb1)
   ·rw[List.mem_singleton] at hb1;rw[ha1,hb1]
 ·rcases List.mem_append.1 hx with hx | hx
  ·obtain⟨j,hj,h1,h2⟩:=h.of x hx;exact⟨j,hj,by omega,h2⟩
  ·rw[List.mem_singleton] at hx;subst hx;exact⟨k,hk,by omega,hy.path⟩
theorem hv_end {l out:List Hav}{k:Nat}(h:HvSt l k out):zf6 out:=⟨h.srt,h.ok,h.one⟩
open Go.Sort (grow)
theorem z4b.under {w w':World}{v:Value}{l:List Hav}(h:z4b w v l)(hb:Below w.heap.size w w'):z4b w' v l:=Row.below h hb
theorem zlp (l:List Hav)(v:Value)(p:ByteArray)(w:World)(he:Env w)(hH:z4b w v l)(hv:∀ x∈l,z2s x.path=true∧x.path.size≤1000000)(hp:z2s p=true)(hz:p.size≤1000000)(hl:l.length≤1000000):
  Calls prog 80 #[v,.string p] w fun e w'=>e=.returned (.tuple #[.int .i64 (zlb l p).1,.bool (zlb l p).2])∧Below w.heap.size w w':=by
 obtain⟨A,c,rfl,-⟩:=id hH;have HE:=hd_ he;have HH:=hd_ hH;have HV:=hd_ hv;have HP:=hd_ hp;have HZ:=hd_ hz;clear he hH hv hp hz;go_enter func80,ntmps80;go_wp2_with fail;go_loopw [6] (fun i wr=>∃ k:Nat,i=.int .i64 k∧k≤l.length∧Hid ((∀ j (hj:j<l.length),j<k→l[j].path≠p∧¬ 0<z2u l[j].path p)∧Below w.heap.size w wr)) (fun i _=>l.length - (intOf i).toNat)
 case atStart=>exact⟨0,rfl,Nat.zero_le _,hd_ ⟨fun j _ h=>by omega,Below.refl _ _⟩⟩
 case round =>
  obtain⟨k,rfl,hk,HI⟩:=hrel;by_cases hlt:k<l.length
  ·obtain⟨ad,rfl,hab,s0,-,-⟩:=z4b.at_ (HH.out.under HI.out.2) hlt;have HVK:=hd_ (HV.out l[k] (List.getElem_mem hlt));have HAT:=hd_ (zle (p:=p) hlt HI.out.1);have HNX:Hid (l[k].path≠p→¬ 0<z2u l[k].path p→∀ j (hj:j<l.length),j<k+1→l[j].path≠p∧¬ 0<z2u l[j].path p):=hd_ fun h1 h2 j hj hjk=>by
    by_cases e:j=k
    ·subst e;exact⟨h1,h2⟩
    ·exact HI.out.1 j hj (by omega)
   generalize l[k].path=q at s0 HVK HAT HNX;have HOR:=hd_ (zhw q p wr (HE.out.below HI.out.2) (by have:=HVK.out.2;omega) (by have:=HZ.out;omega))
   rw[zhv HVK.out.1 HP.out] at HOR;have HB:=hd_ HI.out.2;have HLT:=hd_ hlt;by_cases h1:q=p
   ·have q1:(q.toList == p.toList)=true:=by rw[z3x,decide_eq_true h1]
    have HR:=hd_ (HAT.out.1 h1);clear h1;go_wp2_with fail;go_ret2;rw[HR.out];exact⟨rfl,HB.out⟩
   ·have q1:(q.toList == p.toList)=false:=by rw[z3x,decide_eq_false h1]
    have HN1:=hd_ h1;clear h1;obtain⟨n,hn⟩:∃ n,z2u q p=n:=⟨_,rfl⟩;have HN:=hd_ hn;rw[hn] at HOR;clear hn;by_cases h2:0<n
    ·have q2:decide (0<n)=true:=decide_eq_true h2;have HR:=hd_ (HAT.out.2 HN1.out (by rw[HN.out];exact h2))
     clear h2;go_wp2_with fail;refine HOR.out.mono ?_;rintro e w2 ⟨rfl,hb⟩;have HB2:=hd_ (z0r HB.out hb);clear hb s0;go_wp2_with fail;go_ret2;rw[HR.out];exact⟨rfl,HB2.out⟩
    ·have q2:decide (0<n)=false:=decide_eq_false h2;have HR:=hd_ (HNX.out HN1.out (by rw[HN.out];exact h2))
     clear h2;go_wp2_with fail;refine HOR.out.mono ?_;rintro e w2 ⟨rfl,hb⟩;have HB2:=hd_ (z0r HB.out hb);clear hb s0;go_wp2_with fail;go_roundw
     case rel=>exact⟨k+1,by go_num,by have:=HLT.out;omega,hd_ ⟨fun j hj h=>⟨(HR.out j hj h).1,Int.not_lt.2 (HR.out j hj h).2⟩,HB2.out⟩⟩
     case measure=>have:=HLT.out;simp [intOf];omega
  ·have hke:k=l.length:=by omega
   have HR:=hd_ (zlf (l:=l) (p:=p) fun j hj=>HI.out.1 j hj (by omega))
   have HB:=hd_ HI.out.2;subst hke;clear HI;go_wp2_with fail;go_ret2;rw[HR.out];exact⟨rfl,HB.out⟩
def zof (b:UInt8):Value:=.int .u8 b.toNat
def zog (w:World)(base:Nat)(v:Value)(n:Nat):Prop:=∃ g cap cur fz,v=.slice (some ⟨g,0,none⟩) n cap∧base≤g∧w.heap[g]? = some (.cells cur 5 fz)∧(∀ o,o<cur.size→¬(fz.1≤o∧o<fz.2))∧n≤cap∧cap≤maxLen∧cur.size=cap∧∃ bs:List UInt8,bs.length=n∧cur.toList.take n=bs.map zof
theorem zoh:z0e prog 219 5 1 1:=z0f underlying219 (z:=.int .u8 0) (by kernel_rfl) rfl (by decide)
section
variable {w w' : World} {base n : Nat} {v : Value}
theorem zog.row (h:zog w base v n):∃ l:List UInt8,l.length=n∧Bytes w v l:=by
 obtain⟨g,cap,cur,fz,rfl,hb,hg,hf,hn,hc,hs,bs,rfl,ht⟩:=h;refine⟨bs,rfl,_,cap,rfl,hn,hc,by simp,fun h=>(by cases h),fun _=>⟨_,rfl,(Array.getElem?_eq_some_iff.1 hg).1,fun j u hu=>?_⟩⟩
 rw[Addr.add_lit,cell_of_row w g _ cur _ fz hg];have hu2:(bs.map zof)[j]? = some u:=hu;rw[← ht,List.getElem?_take] at hu2;split at hu2
 ·simpa using hu2
 ·cases hu2
theorem zog.keepAt (h:zog w base v n)(hk:∀ x,base≤x→x<w.heap.size→v.ownBlock=some x→w'.heap[x]? = w.heap[x]?):zog w' base v n:=by
 obtain⟨g,cap,cur,fz,rfl,hb,hg,h⟩:=h;exact⟨g,cap,cur,fz,rfl,hb,(hk g hb (Array.getElem?_eq_some_iff.1 hg).1 rfl).trans hg,h⟩
theorem zog.lt (h:zog w base v n):∀ x,v.ownBlock=some x→base≤x∧x<w.heap.size:=by
 obtain⟨g,cap,cur,fz,rfl,hb,hg,-⟩:=h;intro x hx;injection hx with hx
 subst hx;exact⟨hb,(Array.getElem?_eq_some_iff.1 hg).1⟩
theorem zoi (P:Program)(g o:Nat)(t:TypeId)(fz:Nat×Nat)(u:Value)(cur:Array Value)(w:World)(hg:w.heap[g]? = some (.cells cur t fz))(hfz:¬(fz.1≤o∧o<fz.2))(ho:o<cur.size)(h1:u.oneCell'=true):
  (storeCells ⟨g,o,none⟩ [u] 0).run P w=.ok () (w.setRow g (cur.setIfInBounds o u)):=by
 have hadd:(⟨g,o,none⟩:Addr).add 0=⟨g,o,none⟩:=by unfold Addr.add;simp
 have hcell:w.cell? ⟨g,o,none⟩=some cur[o]:=by simp [World.cell?,hg,ho]
 have hfro:w.frozen? ⟨g,o,none⟩=false:=by
  obtain⟨lo,hi'⟩:=fz;simp only[World.frozen?,hg,Bool.and_eq_false_iff,decide_eq_false_iff_not]
  simp only at hfz
  omega
 have hst:(store ((⟨g,o,none⟩:Addr).add 0) u).run P w=.ok () (w.setRow g (cur.setIfInBounds o u)):=by
  rw[hadd,run_store P w _ u _ h1,hcell];simp [hfro,setCell_eq_setRow w g o cur t fz u hg]
 simp only[storeCells,Sem.run_bind,hst,Result.andThen_ok]
 rfl
theorem zoj (ty:TypeId)(hown:zog w base v n){ad:Addr}{c:Nat}(x:UInt8)(hx:w.cell? ad=some (zof x))(hn:n≤1000000)(hbase:base≤w.heap.size):
  ∃ A' c' w',(Builtin.append_ #[219,219] ty #[v,.slice (some ad) 1 c]).run prog w=.ok (.slice A' (n+1) c') w'∧zog w' base (.slice A' (n+1) c') (n+1)∧w.grownBy w' v.ownBlock:=by
 obtain⟨g,cap,cur,fz,rfl,hb,hg,hf,hnc,hc,hs,bs,hbl,ht⟩:=hown;obtain⟨i,z,hti,hi,hz,hsize,hby,hzs,hsz⟩:=zoh;have hnews:∀(j:Nat) u,[zof x][j]? = some u→w.cell? (ad.add j)=some u:=by
  intro j u hj;cases j with
  | zero =>
   have e:zof x=u:=by simpa using hj
   have e2:ad.add 0=ad:=by unfold Addr.add;simp
   rw[← e,e2];exact hx
  | succ j=>simp at hj
 have hf1:=run_firstCells_some (P:=prog) w i.size 1 ad 1 c [zof x] (by rw[hsize];rfl) hnews
 rw[hsize] at hf1;have hone:(zof x).oneCell'=true:=rfl;by_cases hroom:n+1≤cap
 ·have hst:=zoi prog g n 5 fz (zof x) cur w hg (hf n (by omega)) (by omega) hone
  have hr:(Builtin.append_ #[219,219] ty #[.slice (some ⟨g,0,none⟩) n cap,.slice (some ad) 1 c]).run prog w=.ok (.slice (some ⟨g,0,none⟩) (n+1) cap) (w.setRow g (cur.setIfInBounds n (zof x))):=by
   simp [Builtin.append_,run_underlying hti,sizeOf,typeInfo,hi,Builtin.lenOf,hroom,hf1,Addr.add_lit,hsize,hst]
  refine⟨_,_,_,hr,⟨g,cap,_,fz,rfl,hb,setRow_heap w g cur _ _ _ hg,by simpa using hf,hroom,hc,by simpa using hs,bs++[x],by simp [hbl],?_⟩,⟨rfl,rfl,rfl,by simp,fun k _ hk=>setRow_other w g k _ (fun e=>hk (by simp [Value.ownBlock,e]))⟩⟩
  have hl:n<cur.toList.length:=by simpa using (show n<cur.size by omega)
  rw[Array.toList_setIfInBounds,List.set_eq_take_append_cons_drop,if_pos hl,List.map_append,← ht,List.take_append,List.length_take,Nat.min_eq_left (Nat.le_of_lt hl),List.take_of_length_le (by rw[List.length_take];omega),show n+1 - n=1 by omega]
  rfl
 ·have holds:∀ j u,(bs.map zof)[j]? = some u→w.cell? ((⟨g,0,none⟩:Addr).add j)=some u:=by
   intro j u hj;rw[Addr.add_lit,cell_of_row w g _ cur _ fz hg];rw[← ht,List.getElem?_take] at hj;split at hj
   ·simpa using hj
   ·cases hj
  have hr:=run_append_grow (P:=prog) w 219 ty 5 i z hti hi hz ⟨g,0,none⟩ n cap (bs.map zof) (by rw[hsize];simp [hbl]) holds ad 1 c [zof x] (by rw[hsize];rfl) hnews (by omega) (by omega) (growslice_fits (by omega) (by rw[hby];omega))
  have hge:=grownCap_ge w (n+1) cap 5;have hcm:=grownCap_le_maxLen w (n+1) cap 5 (by unfold maxLen;omega)
  refine⟨_,_,_,hr,⟨w.heap.size,_,_,(0,0),rfl,hbase,heap_alloc_new w.drew _,fun o _ h=>by omega,hge,hcm,?_,bs++[x],by simp [hbl],?_⟩,⟨rfl,rfl,rfl,by simp,fun k hk _=>heap_alloc_old w.drew _ hk⟩⟩
  ·simp only[Array.size_append,List.size_toArray,size_zeroCells,hzs,List.length_append,List.length_map,hbl,List.length_cons,List.length_nil]
   omega
  ·have e:n+1=(bs.map zof++[zof x]).length:=by simp [hbl]
   simp only[Array.toList_append]
   rw[List.map_append,show List.map zof [x]=[zof x] from rfl];conv=>lhs;arg 1;rw[e]
   exact List.take_left
end
theorem zok (w:World)(s:ByteArray)(hs:s.size≤1000000):zog (cvtW w s 5) w.heap.size (.slice (some (cvtA w)) s.size (z0c w s 5)) s.size:=by
 have h1:=grownCap_ge w s.size 0 5;have h2:=grownCap_le_maxLen w s.size 0 5 (by unfold maxLen;omega)
 have h3:s.data.toList.length=s.size:=rfl;have hz:(bytesRow s (z0c w s 5)).size=z0c w s 5:=by
  unfold bytesRow z0c;simp only[Array.size_append,Array.size_map,Array.size_replicate]
  have:s.data.size=s.size:=rfl;omega
 refine⟨w.heap.size,_,_,_,rfl,Nat.le_refl _,heap_alloc_new w.drew _,fun o ho h=>?_,h1,h2,hz,s.data.toList,rfl,?_⟩
 ·have:=h.1;omega
 ·unfold bytesRow;rw[Array.toList_append,List.take_append_of_le_length (by simp),Array.toList_map,List.take_of_length_le (by simp)]
  rfl
theorem zol {w:World}{base n:Nat}{v:Value}{ops:Array Oper}{rest:List Oper}{o:Oper}{a:Act}{Q:Exit→Act→World→Prop}(hgd:o.guard=none){s y:Operand}
  (ho:o.op=.call { callee:=.builtin .append,args:=#[s,y],argTypes:=#[219,219] }) (hown:zog w base v n) (hs:a.eval s=v)
  {ad:Addr} {c:Nat} (hy:a.eval y=.slice (some ad) 1 c) {k:Int} (hk:0≤k∧k<256) (hx:w.cell? ad=some (.int .u8 k)) (hn:n≤1000000) (hbase:base≤w.heap.size)
  (h:∀ A' c' w',zog w' base (.slice A' (n+1) c') (n+1)→w.grownBy w' v.ownBlock→wpList prog ops Q rest (a.put o.dst (.slice A' (n+1) c')) w'):wpList prog ops Q (o :: rest) a w:=by
 have e:Value.int .u8 k=zof (UInt8.ofNat k.toNat):=by
  unfold zof;congr 1
  have:k.toNat<256:=by omega
  simp [UInt8.toNat_ofNat',Nat.mod_eq_of_lt this]
  omega
 rw[e] at hx;obtain⟨A',c',w',hrun,h2,h3⟩:=zoj o.type hown (UInt8.ofNat k.toNat) hx hn hbase;refine wpList_plain hgd fun K hK=>?_;unfold Oper.wp execOp;simp only[ho,resolve,invoke,builtin,Sem.run_bind,Sem.run_pure,Result.andThen_ok,List.map_toArray,List.map_cons,List.map_nil,hs,hy]
 rw[hrun];exact hK _ _ (h A' c' w' h2 h3)
