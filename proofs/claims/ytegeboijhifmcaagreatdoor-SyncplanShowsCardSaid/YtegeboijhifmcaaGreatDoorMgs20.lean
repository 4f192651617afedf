/- A part of the proof. -/
import Derived.Test.YtegeboijhifmcaaGreatDoorMsDfB
set_option linter.unusedVariables false
set_option linter.unusedSimpArgs false
set_option maxHeartbeats 4000000
set_option maxRecDepth 100000
namespace Go.Proofs.YtegeboijhifmcaaGreatDoor
open Go.Proofs.Tryz
open Go.RowKit
theorem zhr (a b:Ty)(W:World):(binOp .neq 61 (.agg #[.int .i64 a.base,.bool a.k,.bool a.l,.bool a.x]) (.agg #[.int .i64 b.base,.bool b.k,.bool b.l,.bool b.x])).run prog W=.ok (.bool (!decide (a=b))) W:=by
 obtain⟨a0,a1,a2,a3⟩:=a;obtain⟨b0,b1,b2,b3⟩:=b;rw[run_neq_struct,run_equalIn_agg W 9999 61 _ _ (by kernel_rfl) (by kernel_rfl)]
 simp [go_sem,Op.eqFields]
 by_cases h1:a0=b0 <;> by_cases h2:a1=b1 <;> by_cases h3:a2=b2 <;> by_cases h4:a3=b3 <;> simp [h1,h2,h3,h4]
theorem zhs (a b c d:Int)(W:World):(binOp .neq 64 (.agg #[.int .u64 a,.int .i64 b]) (.agg #[.int .u64 c,.int .i64 d])).run prog W=.ok (.bool (!(decide (a=c) && decide (b=d)))) W:=by
 rw[run_neq_struct,run_equalIn_agg W 9999 64 _ _ (by kernel_rfl) (by kernel_rfl)]
 simp [go_sem,Op.eqFields]
 by_cases h1:a=c <;> by_cases h2:b=d <;> simp [h1,h2]
theorem zht (f:ByteArray→Option Rev)(x:Edt)(g:Nat)(dv dr ev rv:Value)(n:Int)(cl tx:ByteArray)(bl be bn:Nat)(w:World)(hk:Chk w g dv dr n cl tx ev rv bl be bn)(hL:z7r w bl f)
  (h1:0≤(z2x f x.path).num) (h2:(z2x f x.path).num≤1000000):
  Calls prog 76 #[.pointer (some ⟨g,0,none⟩),.agg #[.string x.path,.int .i64 x.act,.int .i64 x.ty.base,.bool x.ty.k,.bool x.ty.l,.bool x.ty.x,.int .u64 x.sum,.int .i64 x.size,.int .i64 x.base,.string x.frm,.int .i64 x.fnum,.int .i64 x.fence]] w
   fun e w'=>e=.returned (.agg #[.string (z2z f n x).path,.int .i64 (z2z f n x).num,.int .i64 (z2z f n x).chg,.int .i64 (z2z f n x).act,.int .i64 (z2z f n x).ty.base,.bool (z2z f n x).ty.k,.bool (z2z f n x).ty.l,.bool (z2z f n x).ty.x,.int .u64 (z2z f n x).sum,.int .i64 (z2z f n x).size,.string (z2z f n x).frm,.int .i64 (z2z f n x).fnum])∧Below w.heap.size w w':=by
 obtain⟨W,hW⟩:∃ W,W=(w.alloc (.cells #[.string x.path,.int .i64 x.act,.int .i64 x.ty.base,.bool x.ty.k,.bool x.ty.l,.bool x.ty.x,.int .u64 x.sum,.int .i64 x.size,.int .i64 x.base,.string x.frm,.int .i64 x.fnum,.int .i64 x.fence] 90)).alloc (.cells #[.string ⟨#[]⟩,.int .i64 0,.int .i64 0,.int .i64 0,.int .i64 0,.bool false,.bool false,.bool false,.int .u64 0,.int .i64 0,.string ⟨#[]⟩,.int .i64 0] 66):=⟨_,rfl⟩;have hbW:Below w.heap.size w W:=by rw[hW];exact ((Below.refl _ _).alloc (Nat.le_refl _) _).alloc (by simp) _
 have hX:Blk W w.heap.size 90 [.string x.path,.int .i64 x.act,.int .i64 x.ty.base,.bool x.ty.k,.bool x.ty.l,.bool x.ty.x,.int .u64 x.sum,.int .i64 x.size,.int .i64 x.base,.string x.frm,.int .i64 x.fnum,.int .i64 x.fence]:=by rw[hW];exact (z0l w _ _).alloc _
 have hZ:Blk W (w.heap.size+1) 66 [.string ⟨#[]⟩,.int .i64 0,.int .i64 0,.int .i64 0,.int .i64 0,.bool false,.bool false,.bool false,.int .u64 0,.int .i64 0,.string ⟨#[]⟩,.int .i64 0]:=by
  rw[hW];have:=z0l (w.alloc (.cells #[.string x.path,.int .i64 x.act,.int .i64 x.ty.base,.bool x.ty.k,.bool x.ty.l,.bool x.ty.x,.int .u64 x.sum,.int .i64 x.size,.int .i64 x.base,.string x.frm,.int .i64 x.fnum,.int .i64 x.fence] 90)) [.string ⟨#[]⟩,.int .i64 0,.int .i64 0,.int .i64 0,.int .i64 0,.bool false,.bool false,.bool false,.int .u64 0,.int .i64 0,.string ⟨#[]⟩,.int .i64 0] 66;simpa using this
 have hK:Chk W g dv dr n cl tx ev rv bl be bn:=Blk.below hk hbW (Blk.lt hk);have hlk:=z7r.look (w:=W.drew) (z2f.below hL hbW.drew) x.path;obtain⟨-,-,k2,-,-,k7,-,-⟩:=z4a hK;have HW:=hd_ hW;have HM:Hid (z2z f n x=⟨x.path,(z2x f x.path).num+1,n,x.act,x.ty,x.sum,x.size,x.frm,x.fnum⟩):=hd_ rfl;clear hW hK;generalize z2x f x.path=r at hlk HM h1 h2;generalize z2z f n x=m at HM ⊢;obtain⟨c0,c1,c2,c3,c4,c5,c6,c7,c8,c9,c10,c11⟩:=z7z hX;go_enter func76,ntmps76;go_wp2_with fail;rw[← HW.out];have hwr:IntKind.i64.wrap (r.num+1)=r.num+1:=IntWalk.i64_in _ (by omega)
 have hfl:∀ w,(Instr.field 66 (.agg #[.string r.path,.int .i64 r.num,.int .i64 r.chg,.int .i64 r.act,.int .i64 r.ty.base,.bool r.ty.k,.bool r.ty.l,.bool r.ty.x,.int .u64 r.sum,.int .i64 r.size,.string r.frm,.int .i64 r.fnum]) 1).run prog w=.ok (.int .i64 r.num) w:=fun w=>by kernel_rfl
 go_still_tail 27,(by kernel_rfl)
 change wpList _ _ _ _ _ W.drew;clear hwr hfl hlk c0 c1 c2 c3 c4 c5 c6 c7 c8 c9 c10 c11 k2 k7;have hB2:Below w.heap.size w W.drew:=hbW.drew;have hZ2:Blk W.drew (w.heap.size+1) 66 [.string ⟨#[]⟩,.int .i64 0,.int .i64 0,.int .i64 0,.int .i64 0,.bool false,.bool false,.bool false,.int .u64 0,.int .i64 0,.string ⟨#[]⟩,.int .i64 0]:=hZ;generalize W.drew=W2 at hB2 hZ2 ⊢;obtain⟨z0,z1,z2,z3,z4,z5,z6,z7,z8,z9,z10,z11⟩:=z7z hZ2;obtain⟨y0,y1,y2,y3,y4,y5,y6,y7,y8,y9,y10,y11⟩:=zdz hZ2;go_wp2_with fail;have hZ3:=ze0 hZ2 ⟨x.path,r.num+1,n,x.act,x.ty,x.sum,x.size,x.frm,x.fnum⟩;have hB3:=ze1 hB2 (show w.heap.size≤w.heap.size+1 by omega) ⟨x.path,r.num+1,n,x.act,x.ty,x.sum,x.size,x.frm,x.fnum⟩
 rw[← HM.out] at hZ3 hB3;have e:((((((((((((W2.setCell ⟨w.heap.size+1,0,none⟩ (.string m.path)).setCell ⟨w.heap.size+1,1,none⟩ (.int .i64 m.num)).setCell ⟨w.heap.size+1,2,none⟩ (.int .i64 m.chg)).setCell ⟨w.heap.size+1,3,none⟩ (.int .i64 m.act)).setCell ⟨w.heap.size+1,4,none⟩ (.int .i64 m.ty.base)).setCell ⟨w.heap.size+1,5,none⟩ (.bool m.ty.k)).setCell ⟨w.heap.size+1,6,none⟩ (.bool m.ty.l)).setCell ⟨w.heap.size+1,7,none⟩ (.bool m.ty.x)).setCell ⟨w.heap.size+1,8,none⟩ (.int .u64 m.sum)).setCell ⟨w.heap.size+1,9,none⟩ (.int .i64 m.size)).setCell ⟨w.heap.size+1,10,none⟩ (.string m.frm)).setCell ⟨w.heap.size+1,11,none⟩ (.int .i64 m.fnum))=((((((((((((W2.setCell ⟨w.heap.size+1,0,none⟩ (.string ((⟨x.path,r.num+1,n,x.act,x.ty,x.sum,x.size,x.frm,x.fnum⟩:Rev)).path)).setCell ⟨w.heap.size+1,1,none⟩ (.int .i64 ((⟨x.path,r.num+1,n,x.act,x.ty,x.sum,x.size,x.frm,x.fnum⟩:Rev)).num)).setCell ⟨w.heap.size+1,2,none⟩ (.int .i64 ((⟨x.path,r.num+1,n,x.act,x.ty,x.sum,x.size,x.frm,x.fnum⟩:Rev)).chg)).setCell ⟨w.heap.size+1,3,none⟩ (.int .i64 ((⟨x.path,r.num+1,n,x.act,x.ty,x.sum,x.size,x.frm,x.fnum⟩:Rev)).act)).setCell ⟨w.heap.size+1,4,none⟩ (.int .i64 ((⟨x.path,r.num+1,n,x.act,x.ty,x.sum,x.size,x.frm,x.fnum⟩:Rev)).ty.base)).setCell ⟨w.heap.size+1,5,none⟩ (.bool ((⟨x.path,r.num+1,n,x.act,x.ty,x.sum,x.size,x.frm,x.fnum⟩:Rev)).ty.k)).setCell ⟨w.heap.size+1,6,none⟩ (.bool ((⟨x.path,r.num+1,n,x.act,x.ty,x.sum,x.size,x.frm,x.fnum⟩:Rev)).ty.l)).setCell ⟨w.heap.size+1,7,none⟩ (.bool ((⟨x.path,r.num+1,n,x.act,x.ty,x.sum,x.size,x.frm,x.fnum⟩:Rev)).ty.x)).setCell ⟨w.heap.size+1,8,none⟩ (.int .u64 ((⟨x.path,r.num+1,n,x.act,x.ty,x.sum,x.size,x.frm,x.fnum⟩:Rev)).sum)).setCell ⟨w.heap.size+1,9,none⟩ (.int .i64 ((⟨x.path,r.num+1,n,x.act,x.ty,x.sum,x.size,x.frm,x.fnum⟩:Rev)).size)).setCell ⟨w.heap.size+1,10,none⟩ (.string ((⟨x.path,r.num+1,n,x.act,x.ty,x.sum,x.size,x.frm,x.fnum⟩:Rev)).frm)).setCell ⟨w.heap.size+1,11,none⟩ (.int .i64 ((⟨x.path,r.num+1,n,x.act,x.ty,x.sum,x.size,x.frm,x.fnum⟩:Rev)).fnum)):=by rw[HM.out]
 dsimp only at e
 rw[← e];generalize ((((((((((((W2.setCell ⟨w.heap.size+1,0,none⟩ (.string m.path)).setCell ⟨w.heap.size+1,1,none⟩ (.int .i64 m.num)).setCell ⟨w.heap.size+1,2,none⟩ (.int .i64 m.chg)).setCell ⟨w.heap.size+1,3,none⟩ (.int .i64 m.act)).setCell ⟨w.heap.size+1,4,none⟩ (.int .i64 m.ty.base)).setCell ⟨w.heap.size+1,5,none⟩ (.bool m.ty.k)).setCell ⟨w.heap.size+1,6,none⟩ (.bool m.ty.l)).setCell ⟨w.heap.size+1,7,none⟩ (.bool m.ty.x)).setCell ⟨w.heap.size+1,8,none⟩ (.int .u64 m.sum)).setCell ⟨w.heap.size+1,9,none⟩ (.int .i64 m.size)).setCell ⟨w.heap.size+1,10,none⟩ (.string m.frm)).setCell ⟨w.heap.size+1,11,none⟩ (.int .i64 m.fnum))=W3 at hZ3 hB3 ⊢;obtain⟨e0,e1,e2,e3,e4,e5,e6,e7,e8,e9,e10,e11⟩:=z7z hZ3;refine bodyPost_ret (v:=.agg #[.string m.path,.int .i64 m.num,.int .i64 m.chg,.int .i64 m.act,.int .i64 m.ty.base,.bool m.ty.k,.bool m.ty.l,.bool m.ty.x,.int .u64 m.sum,.int .i64 m.size,.string m.frm,.int .i64 m.fnum]) (by simp [results,results76,go_sem,e0,e1,e2,e3,e4,e5,e6,e7,e8,e9,e10,e11]) rfl ⟨rfl,hB3⟩
def zk1 (w:World)(base:Nat)(e:TypeId)(size:Nat)(v:Value)(n:Nat)(xs:List Value):Prop:=
  xs.length=n * size ∧
  ((v=.slice none 0 0∧n=0) ∨
   ∃ g off cap cur,v=.slice (some ⟨g,off,none⟩) n cap∧base≤g∧w.heap[g]? = some (.cells cur e (0,0))∧n≤cap∧cap≤maxLen∧off+cap * size≤cur.size∧(cur.toList.drop off).take (n * size)=xs)
section
variable {w w' : World} {base : Nat} {e : TypeId} {size n : Nat} {v : Value} {xs : List Value}
theorem zk1.of_own (h:w.ownsRow base e size v n xs):zk1 w base e size v n xs:=by
  refine⟨h.1,?_⟩;rcases h.2 with h2 | ⟨g,cap,cur,e1,h3,h4,h5,h6,h7,h8⟩
  · exact .inl h2
  · exact .inr ⟨g,0,cap,cur,e1,h3,h4,h5,h6,by omega,by rw[List.drop_zero];exact h8⟩
theorem zk1.lt (h:zk1 w base e size v n xs):∀ k,v.ownBlock=some k→base≤k∧k<w.heap.size:=by
  intro k hk;rcases h.2 with⟨rfl,_⟩ | ⟨g,off,cap,cur,rfl,hb,hg,_⟩
  · cases hk
  · injection hk with hk
    subst hk;exact⟨hb,(Array.getElem?_eq_some_iff.1 hg).1⟩
theorem zk1.keepAt (h:zk1 w base e size v n xs)(hk:∀ x,v.ownBlock=some x→w'.heap[x]? = w.heap[x]?):zk1 w' base e size v n xs:=by
  refine⟨h.1,?_⟩;rcases h.2 with h2 | ⟨g,off,cap,cur,e1,h3,h4,h5⟩
  · exact .inl h2
  · exact .inr ⟨g,off,cap,cur,e1,h3,(hk g (by rw[e1];rfl)).trans h4,h5⟩
theorem zk1.below (h:zk1 w base e size v n xs)(hb:Below w.heap.size w w'):zk1 w' base e size v n xs:=h.keepAt fun x hx=>hb.block x (h.lt x hx).2
theorem zk1.setCell (h:zk1 w base e size v n xs){p:Addr}(hne:v.ownBlock≠some p.block)(u:Value):zk1 (w.setCell p u) base e size v n xs:=
  h.keepAt fun x hx=>Below.heap_setCell w p u x fun e=>hne (by rw[hx,← e])
theorem zk1.row (h:zk1 w base e size v n xs):Row w size v n xs:=by
  have hl:=h.1;rcases h.2 with⟨rfl,rfl⟩ | ⟨g,off,cap,cur,rfl,_,hg,hnc,hcm,hs,ht⟩
  · exact⟨none,0,rfl,Nat.le_refl _,by simp [maxLen],hl,fun _=>rfl,fun h=>absurd h (by omega)⟩
  · refine⟨_,cap,rfl,hnc,hcm,hl,fun h=>(by cases h),fun _=>⟨_,rfl,(Array.getElem?_eq_some_iff.1 hg).1,fun j u hu=>?_⟩⟩
    rw[Addr.add_lit,cell_of_row w g _ cur e (0,0) hg];rw[← ht,List.getElem?_take] at hu;split at hu
    · rw[List.getElem?_drop] at hu
      simpa using hu
    · cases hu
theorem zk1.tail {ad:Addr}{c:Nat}(h:zk1 w base e size (.slice (some ad) (n+1) c) (n+1) xs):zk1 w base e size (.slice (if c=1 then some ad else some ⟨ad.block,ad.off+size,none⟩) n (c - 1)) n (xs.drop size):=by
  obtain⟨hl,⟨h1,h2⟩ | ⟨g,off,cap,cur,e1,h3,h4,h5,h6,h7,h8⟩⟩:=h
  · omega
  injection e1 with e1 e2 e3
  injection e1 with e1
  subst e1 e3;have hm:(n+1) * size=n * size+size:=Nat.succ_mul n size;refine⟨by rw[List.length_drop,hl,hm];omega,.inr ?_⟩
  by_cases hc:c=1
  · have hn:n=0:=by omega
    subst hn;rw[if_pos hc];refine⟨g,off,c - 1,cur,rfl,h3,h4,by omega,by omega,by rw[hc];omega,?_⟩
    rw[Nat.zero_mul,List.take_zero];refine (List.eq_nil_of_length_eq_zero ?_).symm;rw[List.length_drop,hl];omega
  · rw[if_neg hc]
    have hcm:c * size=(c - 1) * size+size:=by
      have h9:c=(c - 1)+1:=by omega
      conv=>lhs;rw[h9,Nat.succ_mul]
    refine⟨g,off+size,c - 1,cur,rfl,h3,h4,by omega,by omega,by omega,?_⟩
    rw[← h8,hm,← List.drop_drop,List.drop_take,show n * size+size - size=n * size by omega]
theorem zk2 {P:Program}(w:World)(t ty e:TypeId)(i:TypeInfo)(ht:P.underlying t=some (.slice e))(hi:P.info? e=some i)
    (g off sLen sCap:Nat) (cur:Array Value) (hg:w.heap[g]? = some (.cells cur e (0,0)))
    (a:Addr) (m c:Nat) (news:List Value) (hl:news.length=m * i.size) (hnews:∀ j u,news[j]? = some u→w.cell? (a.add j)=some u) (h1:∀ u∈news,u.oneCell'=true)
    (hroom:sLen+m≤sCap) (hfit:off+sLen * i.size+news.length≤cur.size):
    (Builtin.append_ #[t,t] ty #[.slice (some ⟨g,off,none⟩) sLen sCap,.slice (some a) m c]).run P w =
      .ok (.slice (some ⟨g,off,none⟩) (sLen+m) sCap) (w.setRow g (cur.toList.take (off+sLen * i.size)++news++cur.toList.drop (off+sLen * i.size+news.length)).toArray):=by
  have hf:=run_firstCells_some (P:=P) w i.size m a m c news hl hnews;have hst:=run_storeCells_at P g (off+sLen * i.size) e news 0 cur w hg (by simpa using hfit) h1
  simp only[Nat.add_zero] at hst
  simp [Builtin.append_,run_underlying ht,sizeOf,typeInfo,hi,Builtin.lenOf,hroom,hf,Addr.add_lit,hst]
theorem zk3 {P:Program}{W:World}{t ty e:TypeId}{size bytes base:Nat}(he:z0e P t e size bytes){v:Value}{n:Nat}{xs:List Value}(hown:zk1 W base e size v n xs)
    {ad:Addr} {m c:Nat} {news:List Value} (hl:news.length=m * size) (hnews:∀ j u,news[j]? = some u→W.cell? (ad.add j)=some u) (h1:∀ u∈news,u.oneCell'=true) (hm:0<m) (hbytes:(n+m) * bytes≤140737488355328) (h63:n+m≤maxLen) (hbase:base≤W.heap.size):
    ∃ A' c' w',(Builtin.append_ #[t,t] ty #[v,.slice (some ad) m c]).run P W=.ok (.slice A' (n+m) c') w'∧zk1 w' base e size (.slice A' (n+m) c') (n+m) (xs++news)∧W.grownBy w' v.ownBlock ∧
      ((Value.slice A' (n+m) c').ownBlock=v.ownBlock∨(Value.slice A' (n+m) c').ownBlock=some W.heap.size):=by
  rcases hown.2 with⟨rfl,rfl⟩ | ⟨g,off,cap,cur,rfl,hbg,hg,hnc,hcm,hcs,htake⟩
  · have ho:W.ownsRow base e size (.slice none 0 0) 0 xs:=⟨hown.1,.inl ⟨rfl,rfl⟩⟩
    obtain⟨i,z,ht,hi,hz,hsize,hby,hzs,hsz⟩:=he;obtain⟨v',w',hr,h2,h3,h4,h5⟩:=run_append_own_at (P:=P) W base t ty e i z size bytes ht hi hz hsize hby hzs hsz _ 0 xs ho ad m c news hl hnews h1 h63 hbytes hbase;rcases h2.2 with⟨e1,e2⟩ | ⟨g,cap,cur,e1,_⟩
    · omega
    · subst e1
      exact⟨_,_,w',hr,zk1.of_own h2,h3,h5⟩
  · obtain⟨i,z,ht,hi,hz,hsize,hby,hzs,hsz⟩:=he
    subst hsize;subst hby;have hsmall:n+m≤9223372036854775807:=by simp only[maxLen] at h63;omega
    have hlen:(xs++news).length=(n+m) * i.size:=by rw[List.length_append,hown.1,hl,Nat.add_mul]
    by_cases hroom:n+m≤cap
    · have hmul:(n+m) * i.size≤cap * i.size:=Nat.mul_le_mul_right _ hroom
      rw[Nat.add_mul] at hmul;have hfit:off+n * i.size+news.length≤cur.size:=by omega
      have hr:=zk2 (P:=P) W t ty e i ht hi g off n cap cur hg ad m c news hl hnews h1 hroom hfit;refine⟨_,_,_,hr,⟨hlen,.inr ⟨g,off,cap,_,rfl,hbg,setRow_heap W g cur _ e _ hg,hroom,hcm,?_,?_⟩⟩,⟨rfl,rfl,rfl,by simp,fun k _ hk=>setRow_other W g k _ (fun e=>hk (by simp [Value.ownBlock,e]))⟩,Or.inl rfl⟩
      · simp only[List.size_toArray,List.length_append,List.length_take,List.length_drop,Array.length_toList]
        omega
      · have hx:cur.toList.take (off+n * i.size)=cur.toList.take off++xs:=by rw[List.take_add,htake]
        show ((cur.toList.take (off+n * i.size)++news++cur.toList.drop (off+n * i.size+news.length)).drop off).take ((n+m) * i.size)=xs++news
        rw[hx,List.append_assoc,List.append_assoc,List.drop_left' (by rw[List.length_take,Array.length_toList];omega),← List.append_assoc,← hlen]
        exact List.take_left
    · have hfit:Builtin.nextslicecap (n+m) cap * i.bytes≤281474976710656:=growslice_fits (by omega) hbytes
      have holds:∀ j u,xs[j]? = some u→W.cell? ((⟨g,off,none⟩:Addr).add j)=some u:=by
        obtain⟨A',c',e1,-,-,-,-,h9⟩:=hown.row;injection e1 with e1
        intro j u hj;rcases Nat.eq_zero_or_pos n with h0 | h0
        · have hx:xs=[]:=List.eq_nil_of_length_eq_zero (by rw[hown.1,h0];simp)
          rw[hx] at hj;simp at hj
        · obtain⟨ad',e2,-,h10⟩:=h9 h0
          rw[← e1] at e2;injection e2 with e2
          subst e2;exact h10 j u hj
      have hr:=run_append_grow (P:=P) W t ty e i z ht hi hz ⟨g,off,none⟩ n cap xs hown.1 holds ad m c news hl hnews (by omega) (by omega) hfit
      have hge:=grownCap_ge W (n+m) cap e;have hcm:=grownCap_le_maxLen W (n+m) cap e h63;refine⟨_,_,_,hr,⟨hlen,.inr ⟨W.heap.size,0,_,_,rfl,hbase,heap_alloc_new W.drew _,hge,hcm,?_,?_⟩⟩,⟨rfl,rfl,rfl,by simp,fun k hk _=>heap_alloc_old W.drew _ hk⟩,Or.inr rfl⟩
      · simp only[Array.size_append,List.size_toArray,size_zeroCells,hzs,hown.1,hl,← Nat.add_mul]
        refine Nat.le_of_eq ?_;rw[Nat.zero_add];congr 1
        omega
      · rw[List.drop_zero]
        simp only[Array.toList_append,List.append_assoc]
        rw[← List.append_assoc,← hlen];exact List.take_left
end
def zkk (g:ByteArray→Option Value)(k:ByteArray):Value:=(g k).getD (.slice none 0 0)
def zkl (l:List Nat):List Value:=l.map fun(i:Nat)=>.int .i64 i
theorem zkm (l:List Nat)(i:Nat):zkl (l++[i])=zkl l++[.int .i64 i]:=by unfold zkl;rw[List.map_append];rfl
theorem zkn {w:World}{B:Nat}{e:TypeId}{size n:Nat}{v:Value}{xs:List Value}(h:w.ownsRow B e size v n xs){x:Nat}(hx:v.ownBlock=some x){es:Array MapEntry}{c:Nat}(hm:w.heap[x]? = some (.map es c)):False:=by
 rcases h.2 with⟨rfl,_⟩ | ⟨g,cap,cur,rfl,_,hg,_⟩
 ·cases hx
 ·injection hx with hx
  subst hx;have hx':w.heap[g]? = some (.map es c):=hm;rw[hg] at hx';cases hx'
theorem zko {κ α:Type}[BEq κ]{kv:κ→Value}{enc:α→Value}{w:World}{b:Nat}{f:κ→Option α}(h:z2f kv enc w b f):∃ es c,w.heap[b]? = some (.map es c):=by
 obtain⟨m,⟨es,c,hm,_⟩,_⟩:=h;exact⟨es,c,hm⟩
structure ComG (w:World)(B U b:Nat)(f:ByteArray→List Nat)(g:ByteArray→Option Value):Prop where
 map:z2f Value.string id w b g
 row:∀ k,w.ownsRow B 3 1 (zkk g k) (f k).length (zkl (f k))
 apart:∀ k k' x,k≠k'→(zkk g k).ownBlock=some x→(zkk g k').ownBlock≠some x
 up:∀ k x,(zkk g k).ownBlock=some x→x<U
 bu:b<U
def zkp (w:World)(B U b:Nat)(f:ByteArray→List Nat):Prop:=∃ g,ComG w B U b f g
theorem zkp.new (w:World)(B:Nat):zkp (w.alloc (.map #[] 0)) B (w.heap.size+1) w.heap.size (fun _=>[]):=
 ⟨fun _=>none,z2f.new Value.string id w,fun _=>World.ownsRow_nil _ _ _ _,(fun _ _ _ _ h=>by cases h),(fun _ _ h=>by cases h),Nat.lt_succ_self _⟩
theorem zkp.keep {w w':World}{B U b:Nat}{f:ByteArray→List Nat}(h:zkp w B U b f)(hk:∀ x,x<U→(B≤x∨x=b)→w'.heap[x]? = w.heap[x]?):zkp w' B U b f:=by
 obtain⟨g,h1,h2,h3,h4,h5⟩:=h;refine⟨g,h1.keep (hk b h5 (.inr rfl)),fun k=>?_,h3,h4,h5⟩;have hr:=h2 k;refine⟨hr.1,?_⟩;rcases hr.2 with e | ⟨g1,cap,cur,e1,e2,e3,e4⟩
 ·exact .inl e
 ·exact .inr ⟨g1,cap,cur,e1,e2,(hk g1 (h4 k g1 (by rw[e1];rfl)) (.inl e2)).trans e3,e4⟩
theorem zkp.upTo {w:World}{B U U' b:Nat}{f:ByteArray→List Nat}(h:zkp w B U b f)(hU:U≤U'):zkp w B U' b f:=by
 obtain⟨g,h1,h2,h3,h4,h5⟩:=h;exact⟨g,h1,h2,h3,fun k x e=>Nat.lt_of_lt_of_le (h4 k x e) hU,Nat.lt_of_lt_of_le h5 hU⟩
theorem zkp.look {w:World}{B U b:Nat}{f:ByteArray→List Nat}(h:zkp w B U b f)(k:ByteArray):
  ∃ A c,(∀ W:World,W.heap[b]? = w.heap[b]?→(Instr.lookup 123 (.map (some b)) (.string k) false).run prog W=.ok (.slice A (f k).length c) W)∧w.ownsRow B 3 1 (.slice A (f k).length c) (f k).length (zkl (f k)) ∧
   (∀ x,(Value.slice A (f k).length c).ownBlock=some x→x<U∧B≤x) ∧
   ∀(W:World) (A':Option Addr) (c' n i U':Nat),w.grownBy W (Value.slice A (f k).length c).ownBlock→n=(f k).length+1→W.ownsRow B 3 1 (.slice A' n c') n (zkl (f k)++[.int .i64 i])→U≤w.heap.size→U≤U'→W.heap.size≤U' →
    ((Value.slice A' n c').ownBlock=(Value.slice A (f k).length c).ownBlock∨∃ x,(Value.slice A' n c').ownBlock=some x∧w.heap.size≤x) →
    ∃ W2,(Instr.mapUpdate 123 (.map (some b)) (.string k) (.slice A' n c')).run prog W=.ok () W2∧zkp W2 B U' b (fun x=>if x=k then f k++[i] else f x)∧W.grownBy W2 (some b)∧W2.heap.size=W.heap.size:=by
 obtain⟨g,h1,h2,h3,h4,h5⟩:=h;have hv:z2h id (.slice none 0 0) false (g k)=zkk g k:=by unfold z2h zkk;cases g k <;> rfl
 have hlk:∀ W:World,W.heap[b]? = w.heap[b]?→(Instr.lookup 123 (.map (some b)) (.string k) false).run prog W=.ok (zkk g k) W:=fun W hW=>by
  rw[← hv];exact z2f.lookup (w:=W) (h1.keep hW) (z2d underlying9) underlying123 (z:=.slice none 0 0) (by rfl) k false
 obtain⟨A,c,hsl⟩:=z0o (h2 k);have hrow:=h2 k;have hup:=h4 k;rw[hsl] at hrow hup;simp only[hsl] at hlk
 refine⟨A,c,hlk,hrow,fun x hx=>⟨hup x hx,(hrow.lt x hx).1⟩,?_⟩;intro W A' c' n i U' hg hn hown hUs hU hW hloc;subst hn;have hbs:b<w.heap.size:=h1.lt;have hbrow:∀ k x,(zkk g k).ownBlock=some x→x≠b:=by
  intro k x hx e;subst e;obtain⟨es,cc,hm⟩:=zko h1;exact zkn (h2 k) hx hm
 have h1W:z2f Value.string id W b g:=h1.grown hg (by
  intro e;have:=hbrow k b (by rw[hsl];exact e.symm)
  exact this rfl)
 obtain⟨W2,hu,hM,hgr,hsz⟩:=z2f.update (w:=W) h1W (z2d underlying9) underlying123 k (.slice A' ((f k).length+1) c');refine⟨W2,hu,⟨upd g k (.slice A' ((f k).length+1) c'),hM,?_,?_,?_,Nat.lt_of_lt_of_le h5 hU⟩,hgr,hsz⟩
 ·have hrk:zkk (upd g k (.slice A' ((f k).length+1) c')) k=.slice A' ((f k).length+1) c':=by unfold zkk upd;rw[if_pos rfl];rfl
  intro k';by_cases e:k'=k
  ·subst e;rw[hrk,if_pos rfl];have hl:(f k'++[i]).length=(f k').length+1:=by simp
   rw[hl,zkm];refine hown.kept hgr ?_;obtain⟨es,cc,hm⟩:=zko h1W;by_cases hb:(Value.slice A' ((f k').length+1) c').ownBlock=some b
   ·exact absurd hm (fun hm=>zkn hown hb hm)
   ·exact .inr hb
  ·have hrk':zkk (upd g k (.slice A' ((f k).length+1) c')) k'=zkk g k':=by unfold zkk upd;rw[if_neg e]
   rw[hrk',if_neg e];refine ((h2 k').kept hg ?_).kept hgr ?_
   ·cases hb:(zkk g k').ownBlock with
    | none=>exact .inl rfl
    | some x =>
     refine .inr fun e2=>?_;exact h3 k' k x e hb (by rw[hsl];exact e2.symm)
   ·cases hb:(zkk g k').ownBlock with
    | none=>exact .inl rfl
    | some x=>exact .inr fun e2=>hbrow k' x hb (by injection e2)
 ·intro k1 k2 x hne hx hx2;by_cases e1:k1=k
  ·subst e1;have e2:¬ k2=k1:=fun e=>hne e.symm;have hrk:zkk (upd g k1 (.slice A' ((f k1).length+1) c')) k1=.slice A' ((f k1).length+1) c':=by unfold zkk upd;rw[if_pos rfl];rfl
   have hrk':zkk (upd g k1 (.slice A' ((f k1).length+1) c')) k2=zkk g k2:=by unfold zkk upd;rw[if_neg e2]
   rw[hrk] at hx;rw[hrk'] at hx2;rcases hloc with h | ⟨y,h,hy⟩
   ·rw[h,← hsl] at hx;exact h3 k1 k2 x hne hx hx2
   ·rw[h] at hx;injection hx with hx
    have:=((h2 k2).lt x hx2).2;omega
  ·have hrk':zkk (upd g k (.slice A' ((f k).length+1) c')) k1=zkk g k1:=by unfold zkk upd;rw[if_neg e1]
   rw[hrk'] at hx;by_cases e2:k2=k
   ·subst e2;have hrk:zkk (upd g k2 (.slice A' ((f k2).length+1) c')) k2=.slice A' ((f k2).length+1) c':=by unfold zkk upd;rw[if_pos rfl];rfl
    rw[hrk] at hx2;rcases hloc with h | ⟨y,h,hy⟩
    ·rw[h,← hsl] at hx2;exact h3 k1 k2 x hne hx hx2
    ·rw[h] at hx2;injection hx2 with hx2
     have:=((h2 k1).lt x hx).2;omega
   ·have hrk2:zkk (upd g k (.slice A' ((f k).length+1) c')) k2=zkk g k2:=by unfold zkk upd;rw[if_neg e2]
    rw[hrk2] at hx2;exact h3 k1 k2 x hne hx hx2
 ·intro k' x hx;by_cases e:k'=k
  ·subst e;have hrk:zkk (upd g k' (.slice A' ((f k').length+1) c')) k'=.slice A' ((f k').length+1) c':=by unfold zkk upd;rw[if_pos rfl];rfl
   rw[hrk] at hx;have:=(hown.lt x hx).2;omega
  ·have hrk':zkk (upd g k (.slice A' ((f k).length+1) c')) k'=zkk g k':=by unfold zkk upd;rw[if_neg e]
   rw[hrk'] at hx;exact Nat.lt_of_lt_of_le (h4 k' x hx) hU
def zkq (pl:List Syn)(k:Nat)(l:ByteArray):List Nat:=(List.range k).filter fun i=>decide (∃ x,pl[i]? = some x∧x.dst=l∧x.dst≠z2l)
def putF (f:ByteArray→List Nat)(l:ByteArray)(i:Nat):ByteArray→List Nat:=fun x=>if x=l then f l++[i] else f x
theorem comF_no {pl:List Syn}{k:Nat}(hk:k<pl.length)(h:pl[k].dst=z2l):zkq pl (k+1)=zkq pl k:=by
 funext l
 unfold zkq;rw[List.range_succ,List.filter_append];rw[show ([k].filter fun i=>decide (∃ x,pl[i]? = some x∧x.dst=l∧x.dst≠z2l))=[] from ?_,List.append_nil];rw[List.filter_cons,if_neg,List.filter_nil];rw[decide_eq_true_iff];rintro⟨x,hx,-,hn⟩;rw[List.getElem?_eq_getElem hk] at hx;injection hx with hx
 subst hx;exact hn h
theorem zkr {pl:List Syn}{k:Nat}(hk:k<pl.length)(h:pl[k].dst≠z2l):zkq pl (k+1)=putF (zkq pl k) pl[k].dst k:=by
 funext l
 unfold putF;have hu:zkq pl (k+1) l=zkq pl k l++([k].filter fun i=>decide (∃ x,pl[i]? = some x∧x.dst=l∧x.dst≠z2l)):=by
  unfold zkq;rw[List.range_succ,List.filter_append]
 rw[hu,List.filter_cons,List.filter_nil];by_cases e:l=pl[k].dst
 ·subst e;rw[if_pos rfl,if_pos];rw[decide_eq_true_iff];exact⟨pl[k],List.getElem?_eq_getElem hk,rfl,h⟩
 ·rw[if_neg e,if_neg,List.append_nil];rw[decide_eq_true_iff];rintro⟨x,hx,h1,-⟩;rw[List.getElem?_eq_getElem hk] at hx;injection hx with hx
  subst hx;exact e h1.symm
theorem comF_lt {pl:List Syn}{k:Nat}{l:ByteArray}{i:Nat}(h:i∈zkq pl k l):i<pl.length∧∃ x,pl[i]? = some x∧x.dst=l∧x.dst≠z2l:=by
 unfold zkq at h;obtain⟨h1,h2⟩:=List.mem_filter.1 h;rw[decide_eq_true_iff] at h2;obtain⟨x,hx,h3⟩:=h2;exact⟨(List.getElem?_eq_some_iff.1 hx).1,x,hx,h3⟩
theorem zks (pl:List Syn)(k:Nat)(l:ByteArray):(zkq pl k l).length≤k:=by
 unfold zkq;exact Nat.le_trans (List.length_filter_le _ _) (by rw[List.length_range];exact Nat.le_refl _)
theorem zkt {pl:List Syn}{x:Syn}(hx:x∈pl)(hd:x.dst≠z2l):∃ i,i∈zkq pl pl.length x.dst∧pl[i]? = some x:=by
 obtain⟨i,hi,rfl⟩:=List.getElem_of_mem hx;refine⟨i,?_,List.getElem?_eq_getElem hi⟩;unfold zkq;refine List.mem_filter.2 ⟨List.mem_range.2 hi,?_⟩;rw[decide_eq_true_iff];exact⟨pl[i],List.getElem?_eq_getElem hi,rfl,hd⟩
def stF (pl:List Syn):Nat→ByteArray→Option Nat
 | 0=>fun _=>none
 | k+1=>match pl[k]? with
  | some x=>upd (stF pl k) x.path k
  | none=>stF pl k
theorem zku {pl:List Syn}{k:Nat}(hk:k<pl.length):stF pl (k+1)=upd (stF pl k) pl[k].path k:=by
 show (match pl[k]? with | some x=>upd (stF pl k) x.path k | none=>stF pl k)=_
 rw[List.getElem?_eq_getElem hk]
theorem zkv {pl:List Syn}{k i:Nat}{p:ByteArray}(hk:k≤pl.length)(h:stF pl k p=some i):i<k∧∃ hi:i<pl.length,pl[i].path=p:=by
 induction k with
 | zero=>cases h
 | succ k ih =>
  rw[zku hk] at h;unfold upd at h;split at h
  ·rename_i e
   injection h with h
   subst h;exact⟨by omega,hk,e.symm⟩
  ·obtain⟨h1,h2⟩:=ih (by omega) h
   exact⟨by omega,h2⟩
theorem zkw {pl:List Syn}{k:Nat}{p:ByteArray}(hk:k≤pl.length)(h:stF pl k p=none):∀ i (hi:i<pl.length),i<k→pl[i].path≠p:=by
 induction k with
 | zero=>intro i _ h;omega
 | succ k ih =>
  intro i hi hik e;rw[zku hk] at h;unfold upd at h;split at h
  ·cases h
  ·rename_i e2
   by_cases e3:i=k
   ·subst e3;exact e2 e.symm
   ·exact ih (by omega) h i hi (by omega) e
theorem stF_get {pl:List Syn}(hs:z6c pl)(p:ByteArray):z6e pl p=(stF pl pl.length p).bind fun i=>pl[i]?:=by
 cases h:stF pl pl.length p with
 | none =>
  refine z62.2 fun a ha e=>?_;obtain⟨i,hi,rfl⟩:=List.getElem_of_mem ha;exact zkw (Nat.le_refl _) h i hi hi e
 | some i =>
  obtain⟨-,hi,e⟩:=zkv (Nat.le_refl _) h;show _=pl[i]?
  rw[List.getElem?_eq_getElem hi,← e];exact z65 hs (List.getElem_mem hi)
theorem zkx {pl:List Syn}(hs:z6c pl)(b:ByteArray→Bool){k:Nat}(hk:k<pl.length)(hk2:k<(zeg b pl).length):(zeg b pl).set k (zjw 5 (zeg b pl)[k])=zeg (setB b pl[k].path) pl:=by
 refine List.ext_getElem (by unfold zeg;simp) fun j h1 h2=>?_
 have hj:j<pl.length:=by unfold zeg at h2;simpa using h2
 have e1:∀(b:ByteArray→Bool) (h:j<(zeg b pl).length),(zeg b pl)[j]=zef b pl[j]:=fun b h=>by
  show (pl.map (zef b))[j]'(by simpa [zeg] using h)=_
  rw[List.getElem_map]
 rw[List.getElem_set,e1 (setB b pl[k].path) h2];by_cases e:k=j
 ·subst e;have hb:setB b pl[k].path pl[k].path=true:=zkc;have e2:=e1 b hk2;have e3:zef (setB b pl[k].path) pl[k]=zjw 5 pl[k]:=by unfold zef;rw[if_pos hb];rfl
  have e4:∀ x:Syn,zjw 5 (zef b x)=zjw 5 x:=fun x=>by unfold zef;split <;> rfl
  rw[if_pos rfl,e3];exact (congrArg (zjw 5) e2).trans (e4 _)
 ·rw[if_neg e,e1];have hp:pl[j].path≠pl[k].path:=fun ep=>by
   have hh:=List.pairwise_iff_getElem.1 hs;rcases Nat.lt_or_gt_of_ne e with h | h
   ·exact z5z (hh k j hk hj h) ep.symm
   ·exact z5z (hh j k hj hk h) ep
  unfold zef;have:setB b pl[k].path pl[j].path=b pl[j].path:=by unfold setB;rw[decide_eq_false hp,Bool.false_or]
  rw[this]
def zoy (b:UInt8):Value:=.int .u8 b.toNat
def zoz (w:World)(base:Nat)(v:Value)(n:Nat):Prop:=∃ g cap cur fz,v=.slice (some ⟨g,0,none⟩) n cap∧base≤g∧w.heap[g]? = some (.cells cur 5 fz)∧(∀ o,o<cur.size→¬(fz.1≤o∧o<fz.2))∧n≤cap∧cap≤maxLen∧cur.size=cap∧∃ bs:List UInt8,bs.length=n∧cur.toList.take n=bs.map zoy
theorem zp0:z0e prog 201 5 1 1:=z0f underlying201 (z:=.int .u8 0) (by kernel_rfl) rfl (by decide)
section
variable {w w' : World} {base n : Nat} {v : Value}
theorem zoz.row (h:zoz w base v n):∃ l:List UInt8,l.length=n∧Bytes w v l:=by
 obtain⟨g,cap,cur,fz,rfl,hb,hg,hf,hn,hc,hs,bs,rfl,ht⟩:=h;refine⟨bs,rfl,_,cap,rfl,hn,hc,by simp,fun h=>(by cases h),fun _=>⟨_,rfl,(Array.getElem?_eq_some_iff.1 hg).1,fun j u hu=>?_⟩⟩
 rw[Addr.add_lit,cell_of_row w g _ cur _ fz hg];have hu2:(bs.map zoy)[j]? = some u:=hu;rw[← ht,List.getElem?_take] at hu2;split at hu2
 ·simpa using hu2
 ·cases hu2
theorem zoz.keepAt (h:zoz w base v n)(hk:∀ x,base≤x→x<w.heap.size→v.ownBlock=some x→w'.heap[x]? = w.heap[x]?):zoz w' base v n:=by
 obtain⟨g,cap,cur,fz,rfl,hb,hg,h⟩:=h;exact⟨g,cap,cur,fz,rfl,hb,(hk g hb (Array.getElem?_eq_some_iff.1 hg).1 rfl).trans hg,h⟩
theorem zoz.lt (h:zoz w base v n):∀ x,v.ownBlock=some x→base≤x∧x<w.heap.size:=by
 obtain⟨g,cap,cur,fz,rfl,hb,hg,-⟩:=h;intro x hx;injection hx with hx
 subst hx;exact⟨hb,(Array.getElem?_eq_some_iff.1 hg).1⟩
theorem zp1 (P:Program)(g o:Nat)(t:TypeId)(fz:Nat×Nat)(u:Value)(cur:Array Value)(w:World)(hg:w.heap[g]? = some (.cells cur t fz))(hfz:¬(fz.1≤o∧o<fz.2))(ho:o<cur.size)(h1:u.oneCell'=true):
  (storeCells ⟨g,o,none⟩ [u] 0).run P w=.ok () (w.setRow g (cur.setIfInBounds o u)):=by
 have hadd:(⟨g,o,none⟩:Addr).add 0=⟨g,o,none⟩:=by unfold Addr.add;simp
 have hcell:w.cell? ⟨g,o,none⟩=some cur[o]:=by simp [World.cell?,hg,ho]
 have hfro:w.frozen? ⟨g,o,none⟩=false:=by
  obtain⟨lo,hi'⟩:=fz;simp only[World.frozen?,hg,Bool.and_eq_false_iff,decide_eq_false_iff_not]
  simp only at hfz
  omega
 have hst:(store ((⟨g,o,none⟩:Addr).add 0) u).run P w=.ok () (w.setRow g (cur.setIfInBounds o u)):=by
  rw[hadd,run_store P w _ u _ h1,hcell];simp [hfro,setCell_eq_setRow w g o cur t fz u hg]
 simp only[storeCells,Sem.run_bind,hst,Result.andThen_ok]
 rfl
theorem zp2 (ty:TypeId)(hown:zoz w base v n){ad:Addr}{c:Nat}(x:UInt8)(hx:w.cell? ad=some (zoy x))(hn:n≤1000000)(hbase:base≤w.heap.size):
  ∃ A' c' w',(Builtin.append_ #[201,201] ty #[v,.slice (some ad) 1 c]).run prog w=.ok (.slice A' (n+1) c') w'∧zoz w' base (.slice A' (n+1) c') (n+1)∧w.grownBy w' v.ownBlock:=by
 obtain⟨g,cap,cur,fz,rfl,hb,hg,hf,hnc,hc,hs,bs,hbl,ht⟩:=hown;obtain⟨i,z,hti,hi,hz,hsize,hby,hzs,hsz⟩:=zp0;have hnews:∀(j:Nat) u,[zoy x][j]? = some u→w.cell? (ad.add j)=some u:=by
  intro j u hj;cases j with
  | zero =>
   have e:zoy x=u:=by simpa using hj
   have e2:ad.add 0=ad:=by unfold Addr.add;simp
   rw[← e,e2];exact hx
  | succ j=>simp at hj
 have hf1:=run_firstCells_some (P:=prog) w i.size 1 ad 1 c [zoy x] (by rw[hsize];rfl) hnews
 rw[hsize] at hf1;have hone:(zoy x).oneCell'=true:=rfl;by_cases hroom:n+1≤cap
 ·have hst:=zp1 prog g n 5 fz (zoy x) cur w hg (hf n (by omega)) (by omega) hone
  have hr:(Builtin.append_ #[201,201] ty #[.slice (some ⟨g,0,none⟩) n cap,.slice (some ad) 1 c]).run prog w=.ok (.slice (some ⟨g,0,none⟩) (n+1) cap) (w.setRow g (cur.setIfInBounds n (zoy x))):=by
   simp [Builtin.append_,run_underlying hti,sizeOf,typeInfo,hi,Builtin.lenOf,hroom,hf1,Addr.add_lit,hsize,hst]
  refine⟨_,_,_,hr,⟨g,cap,_,fz,rfl,hb,setRow_heap w g cur _ _ _ hg,by simpa using hf,hroom,hc,by simpa using hs,bs++[x],by simp [hbl],?_⟩,⟨rfl,rfl,rfl,by simp,fun k _ hk=>setRow_other w g k _ (fun e=>hk (by simp [Value.ownBlock,e]))⟩⟩
  have hl:n<cur.toList.length:=by simpa using (show n<cur.size by omega)
  rw[Array.toList_setIfInBounds,List.set_eq_take_append_cons_drop,if_pos hl,List.map_append,← ht,List.take_append,List.length_take,Nat.min_eq_left (Nat.le_of_lt hl),List.take_of_length_le (by rw[List.length_take];omega),show n+1 - n=1 by omega]
  rfl
 ·have holds:∀ j u,(bs.map zoy)[j]? = some u→w.cell? ((⟨g,0,none⟩:Addr).add j)=some u:=by
   intro j u hj;rw[Addr.add_lit,cell_of_row w g _ cur _ fz hg];rw[← ht,List.getElem?_take] at hj;split at hj
   ·simpa using hj
   ·cases hj
  have hr:=run_append_grow (P:=prog) w 201 ty 5 i z hti hi hz ⟨g,0,none⟩ n cap (bs.map zoy) (by rw[hsize];simp [hbl]) holds ad 1 c [zoy x] (by rw[hsize];rfl) hnews (by omega) (by omega) (growslice_fits (by omega) (by rw[hby];omega))
  have hge:=grownCap_ge w (n+1) cap 5;have hcm:=grownCap_le_maxLen w (n+1) cap 5 (by unfold maxLen;omega)
  refine⟨_,_,_,hr,⟨w.heap.size,_,_,(0,0),rfl,hbase,heap_alloc_new w.drew _,fun o _ h=>by omega,hge,hcm,?_,bs++[x],by simp [hbl],?_⟩,⟨rfl,rfl,rfl,by simp,fun k hk _=>heap_alloc_old w.drew _ hk⟩⟩
  ·simp only[Array.size_append,List.size_toArray,size_zeroCells,hzs,List.length_append,List.length_map,hbl,List.length_cons,List.length_nil]
   omega
  ·have e:n+1=(bs.map zoy++[zoy x]).length:=by simp [hbl]
   simp only[Array.toList_append]
   rw[List.map_append,show List.map zoy [x]=[zoy x] from rfl];conv=>lhs;arg 1;rw[e]
   exact List.take_left
end
theorem zp3 (w:World)(s:ByteArray)(hs:s.size≤1000000):zoz (cvtW w s 5) w.heap.size (.slice (some (cvtA w)) s.size (z0c w s 5)) s.size:=by
 have h1:=grownCap_ge w s.size 0 5;have h2:=grownCap_le_maxLen w s.size 0 5 (by unfold maxLen;omega)
 have h3:s.data.toList.length=s.size:=rfl;have hz:(bytesRow s (z0c w s 5)).size=z0c w s 5:=by
  unfold bytesRow z0c;simp only[Array.size_append,Array.size_map,Array.size_replicate]
  have:s.data.size=s.size:=rfl;omega
 refine⟨w.heap.size,_,_,_,rfl,Nat.le_refl _,heap_alloc_new w.drew _,fun o ho h=>?_,h1,h2,hz,s.data.toList,rfl,?_⟩
 ·have:=h.1;omega
 ·unfold bytesRow;rw[Array.toList_append,List.take_append_of_le_length (by simp),Array.toList_map,List.take_of_length_le (by simp)]
  rfl
theorem zp4 {w:World}{base n:Nat}{v:Value}{ops:Array Oper}{rest:List Oper}{o:Oper}{a:Act}{Q:Exit→Act→World→Prop}(hgd:o.guard=none){s y:Operand}
  (ho:o.op=.call { callee:=.builtin .append,args:=#[s,y],argTypes:=#[201,201] }) (hown:zoz w base v n) (hs:a.eval s=v)
  {ad:Addr} {c:Nat} (hy:a.eval y=.slice (some ad) 1 c) {k:Int} (hk:0≤k∧k<256) (hx:w.cell? ad=some (.int .u8 k)) (hn:n≤1000000) (hbase:base≤w.heap.size)
  (h:∀ A' c' w',zoz w' base (.slice A' (n+1) c') (n+1)→w.grownBy w' v.ownBlock→wpList prog ops Q rest (a.put o.dst (.slice A' (n+1) c')) w'):wpList prog ops Q (o :: rest) a w:=by
 have e:Value.int .u8 k=zoy (UInt8.ofNat k.toNat):=by
  unfold zoy;congr 1
  have:k.toNat<256:=by omega
  simp [UInt8.toNat_ofNat',Nat.mod_eq_of_lt this]
  omega
 rw[e] at hx;obtain⟨A',c',w',hrun,h2,h3⟩:=zp2 o.type hown (UInt8.ofNat k.toNat) hx hn hbase;refine wpList_plain hgd fun K hK=>?_;unfold Oper.wp execOp;simp only[ho,resolve,invoke,builtin,Sem.run_bind,Sem.run_pure,Result.andThen_ok,List.map_toArray,List.map_cons,List.map_nil,hs,hy]
 rw[hrun];exact hK _ _ (h A' c' w' h2 h3)
end Go.Proofs.YtegeboijhifmcaaGreatDoor
