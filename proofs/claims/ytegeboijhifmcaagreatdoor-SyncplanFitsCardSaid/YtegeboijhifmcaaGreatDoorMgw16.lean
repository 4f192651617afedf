/- unchanged, revision, room. -/
import Derived.Test.YtegeboijhifmcaaGreatDoorMgw13
import Derived.Test.YtegeboijhifmcaaGreatDoorMzDfB
import Derived.Test.YtegeboijhifmcaaGreatDoorMgw15
namespace Go.Proofs.YtegeboijhifmcaaGreatDoor
set_option linter.unusedVariables false
set_option linter.unusedSimpArgs false
set_option maxHeartbeats 4000000
set_option maxRecDepth 100000
open Go.RowKit
theorem zhr (a b:Ty)(W:World):(binOp .neq 61 (.agg #[.int .i64 a.base,.bool a.k,.bool a.l,.bool a.x]) (.agg #[.int .i64 b.base,.bool b.k,.bool b.l,.bool b.x])).run Tryz.prog W=.ok (.bool (!decide (a=b))) W:=by
 obtain⟨a0,a1,a2,a3⟩:=a;obtain⟨b0,b1,b2,b3⟩:=b;rw[run_neq_struct,run_equalIn_agg W 9999 61 _ _ (by kernel_rfl) (by kernel_rfl)]
 simp [go_sem,Op.eqFields]
 by_cases h1:a0=b0 <;> by_cases h2:a1=b1 <;> by_cases h3:a2=b2 <;> by_cases h4:a3=b3 <;> simp [h1,h2,h3,h4]
theorem zhs (a b c d:Int)(W:World):(binOp .neq 64 (.agg #[.int .u64 a,.int .i64 b]) (.agg #[.int .u64 c,.int .i64 d])).run Tryz.prog W=.ok (.bool (!(decide (a=c) && decide (b=d)))) W:=by
 rw[run_neq_struct,run_equalIn_agg W 9999 64 _ _ (by kernel_rfl) (by kernel_rfl)]
 simp [go_sem,Op.eqFields]
 by_cases h1:a=c <;> by_cases h2:b=d <;> simp [h1,h2]
theorem zht (f:ByteArray→Option Rev)(x:Edt)(g:Nat)(dv dr ev rv:Value)(n:Int)(cl tx:ByteArray)(bl be bn:Nat)(w:World)(hk:Chk w g dv dr n cl tx ev rv bl be bn)(hL:z7r w bl f)
  (h1:0≤(z2x f x.path).num) (h2:(z2x f x.path).num≤1000000):
  Calls Tryz.prog 76 #[.pointer (some ⟨g,0,none⟩),.agg #[.string x.path,.int .i64 x.act,.int .i64 x.ty.base,.bool x.ty.k,.bool x.ty.l,.bool x.ty.x,.int .u64 x.sum,.int .i64 x.size,.int .i64 x.base,.string x.frm,.int .i64 x.fnum,.int .i64 x.fence]] w
   fun e w'=>e=.returned (.agg #[.string (z2z f n x).path,.int .i64 (z2z f n x).num,.int .i64 (z2z f n x).chg,.int .i64 (z2z f n x).act,.int .i64 (z2z f n x).ty.base,.bool (z2z f n x).ty.k,.bool (z2z f n x).ty.l,.bool (z2z f n x).ty.x,.int .u64 (z2z f n x).sum,.int .i64 (z2z f n x).size,.string (z2z f n x).frm,.int .i64 (z2z f n x).fnum])∧Below w.heap.size w w':=by
 obtain⟨W,hW⟩:∃ W,W=(w.alloc (.cells #[.string x.path,.int .i64 x.act,.int .i64 x.ty.base,.bool x.ty.k,.bool x.ty.l,.bool x.ty.x,.int .u64 x.sum,.int .i64 x.size,.int .i64 x.base,.string x.frm,.int .i64 x.fnum,.int .i64 x.fence] 90)).alloc (.cells #[.string ⟨#[]⟩,.int .i64 0,.int .i64 0,.int .i64 0,.int .i64 0,.bool false,.bool false,.bool false,.int .u64 0,.int .i64 0,.string ⟨#[]⟩,.int .i64 0] 66):=⟨_,rfl⟩;have hbW:Below w.heap.size w W:=by rw[hW];exact ((Below.refl _ _).alloc (Nat.le_refl _) _).alloc (by simp) _
 have hX:Blk W w.heap.size 90 [.string x.path,.int .i64 x.act,.int .i64 x.ty.base,.bool x.ty.k,.bool x.ty.l,.bool x.ty.x,.int .u64 x.sum,.int .i64 x.size,.int .i64 x.base,.string x.frm,.int .i64 x.fnum,.int .i64 x.fence]:=by rw[hW];exact (z0l w _ _).alloc _
 have hZ:Blk W (w.heap.size+1) 66 [.string ⟨#[]⟩,.int .i64 0,.int .i64 0,.int .i64 0,.int .i64 0,.bool false,.bool false,.bool false,.int .u64 0,.int .i64 0,.string ⟨#[]⟩,.int .i64 0]:=by
  rw[hW];have:=z0l (w.alloc (.cells #[.string x.path,.int .i64 x.act,.int .i64 x.ty.base,.bool x.ty.k,.bool x.ty.l,.bool x.ty.x,.int .u64 x.sum,.int .i64 x.size,.int .i64 x.base,.string x.frm,.int .i64 x.fnum,.int .i64 x.fence] 90)) [.string ⟨#[]⟩,.int .i64 0,.int .i64 0,.int .i64 0,.int .i64 0,.bool false,.bool false,.bool false,.int .u64 0,.int .i64 0,.string ⟨#[]⟩,.int .i64 0] 66;simpa using this
 have hK:Chk W g dv dr n cl tx ev rv bl be bn:=Blk.below hk hbW (Blk.lt hk);have hlk:=z7r.look (w:=W.drew) (z2f.below hL hbW.drew) x.path;obtain⟨-,-,k2,-,-,k7,-,-⟩:=z4a hK;have HW:=hd_ hW;have HM:Hid (z2z f n x=⟨x.path,(z2x f x.path).num+1,n,x.act,x.ty,x.sum,x.size,x.frm,x.fnum⟩):=hd_ rfl;clear hW hK;generalize z2x f x.path=r at hlk HM h1 h2;generalize z2z f n x=m at HM ⊢;obtain⟨c0,c1,c2,c3,c4,c5,c6,c7,c8,c9,c10,c11⟩:=z7z hX;go_enter Tryz.func76,Tryz.ntmps76;go_wp2_with fail;rw[← HW.out];have hwr:IntKind.i64.wrap (r.num+1)=r.num+1:=IntWalk.i64_in _ (by omega)
 have hfl:∀ w,(Instr.field 66 (.agg #[.string r.path,.int .i64 r.num,.int .i64 r.chg,.int .i64 r.act,.int .i64 r.ty.base,.bool r.ty.k,.bool r.ty.l,.bool r.ty.x,.int .u64 r.sum,.int .i64 r.size,.string r.frm,.int .i64 r.fnum]) 1).run Tryz.prog w=.ok (.int .i64 r.num) w:=fun w=>by kernel_rfl
 go_still_tail 27,(by kernel_rfl)
 change wpList _ _ _ _ _ W.drew;clear hwr hfl hlk c0 c1 c2 c3 c4 c5 c6 c7 c8 c9 c10 c11 k2 k7;have hB2:Below w.heap.size w W.drew:=hbW.drew;have hZ2:Blk W.drew (w.heap.size+1) 66 [.string ⟨#[]⟩,.int .i64 0,.int .i64 0,.int .i64 0,.int .i64 0,.bool false,.bool false,.bool false,.int .u64 0,.int .i64 0,.string ⟨#[]⟩,.int .i64 0]:=hZ;generalize W.drew=W2 at hB2 hZ2 ⊢;obtain⟨z0,z1,z2,z3,z4,z5,z6,z7,z8,z9,z10,z11⟩:=z7z hZ2;obtain⟨y0,y1,y2,y3,y4,y5,y6,y7,y8,y9,y10,y11⟩:=zdz hZ2;go_wp2_with fail;have hZ3:=ze0 hZ2 ⟨x.path,r.num+1,n,x.act,x.ty,x.sum,x.size,x.frm,x.fnum⟩;have hB3:=ze1 hB2 (show w.heap.size≤w.heap.size+1 by omega) ⟨x.path,r.num+1,n,x.act,x.ty,x.sum,x.size,x.frm,x.fnum⟩
 rw[← HM.out] at hZ3 hB3;have e:((((((((((((W2.setCell ⟨w.heap.size+1,0,none⟩ (.string m.path)).setCell ⟨w.heap.size+1,1,none⟩ (.int .i64 m.num)).setCell ⟨w.heap.size+1,2,none⟩ (.int .i64 m.chg)).setCell ⟨w.heap.size+1,3,none⟩ (.int .i64 m.act)).setCell ⟨w.heap.size+1,4,none⟩ (.int .i64 m.ty.base)).setCell ⟨w.heap.size+1,5,none⟩ (.bool m.ty.k)).setCell ⟨w.heap.size+1,6,none⟩ (.bool m.ty.l)).setCell ⟨w.heap.size+1,7,none⟩ (.bool m.ty.x)).setCell ⟨w.heap.size+1,8,none⟩ (.int .u64 m.sum)).setCell ⟨w.heap.size+1,9,none⟩ (.int .i64 m.size)).setCell ⟨w.heap.size+1,10,none⟩ (.string m.frm)).setCell ⟨w.heap.size+1,11,none⟩ (.int .i64 m.fnum))=((((((((((((W2.setCell ⟨w.heap.size+1,0,none⟩ (.string ((⟨x.path,r.num+1,n,x.act,x.ty,x.sum,x.size,x.frm,x.fnum⟩:Rev)).path)).setCell ⟨w.heap.size+1,1,none⟩ (.int .i64 ((⟨x.path,r.num+1,n,x.act,x.ty,x.sum,x.size,x.frm,x.fnum⟩:Rev)).num)).setCell ⟨w.heap.size+1,2,none⟩ (.int .i64 ((⟨x.path,r.num+1,n,x.act,x.ty,x.sum,x.size,x.frm,x.fnum⟩:Rev)).chg)).setCell ⟨w.heap.size+1,3,none⟩ (.int .i64 ((⟨x.path,r.num+1,n,x.act,x.ty,x.sum,x.size,x.frm,x.fnum⟩:Rev)).act)).setCell ⟨w.heap.size+1,4,none⟩ (.int .i64 ((⟨x.path,r.num+1,n,x.act,x.ty,x.sum,x.size,x.frm,x.fnum⟩:Rev)).ty.base)).setCell ⟨w.heap.size+1,5,none⟩ (.bool ((⟨x.path,r.num+1,n,x.act,x.ty,x.sum,x.size,x.frm,x.fnum⟩:Rev)).ty.k)).setCell ⟨w.heap.size+1,6,none⟩ (.bool ((⟨x.path,r.num+1,n,x.act,x.ty,x.sum,x.size,x.frm,x.fnum⟩:Rev)).ty.l)).setCell ⟨w.heap.size+1,7,none⟩ (.bool ((⟨x.path,r.num+1,n,x.act,x.ty,x.sum,x.size,x.frm,x.fnum⟩:Rev)).ty.x)).setCell ⟨w.heap.size+1,8,none⟩ (.int .u64 ((⟨x.path,r.num+1,n,x.act,x.ty,x.sum,x.size,x.frm,x.fnum⟩:Rev)).sum)).setCell ⟨w.heap.size+1,9,none⟩ (.int .i64 ((⟨x.path,r.num+1,n,x.act,x.ty,x.sum,x.size,x.frm,x.fnum⟩:Rev)).size)).setCell ⟨w.heap.size+1,10,none⟩ (.string ((⟨x.path,r.num+1,n,x.act,x.ty,x.sum,x.size,x.frm,x.fnum⟩:Rev)).frm)).setCell ⟨w.heap.size+1,11,none⟩ (.int .i64 ((⟨x.path,r.num+1,n,x.act,x.ty,x.sum,x.size,x.frm,x.fnum⟩:Rev)).fnum)):=by rw[HM.out]
 dsimp only at e
 rw[← e];generalize ((((((((((((W2.setCell ⟨w.heap.size+1,0,none⟩ (.string m.path)).setCell ⟨w.heap.size+1,1,none⟩ (.int .i64 m.num)).setCell ⟨w.heap.size+1,2,none⟩ (.int .i64 m.chg)).setCell ⟨w.heap.size+1,3,none⟩ (.int .i64 m.act)).setCell ⟨w.heap.size+1,4,none⟩ (.int .i64 m.ty.base)).setCell ⟨w.heap.size+1,5,none⟩ (.bool m.ty.k)).setCell ⟨w.heap.size+1,6,none⟩ (.bool m.ty.l)).setCell ⟨w.heap.size+1,7,none⟩ (.bool m.ty.x)).setCell ⟨w.heap.size+1,8,none⟩ (.int .u64 m.sum)).setCell ⟨w.heap.size+1,9,none⟩ (.int .i64 m.size)).setCell ⟨w.heap.size+1,10,none⟩ (.string m.frm)).setCell ⟨w.heap.size+1,11,none⟩ (.int .i64 m.fnum))=W3 at hZ3 hB3 ⊢;obtain⟨e0,e1,e2,e3,e4,e5,e6,e7,e8,e9,e10,e11⟩:=z7z hZ3;refine bodyPost_ret (v:=.agg #[.string m.path,.int .i64 m.num,.int .i64 m.chg,.int .i64 m.act,.int .i64 m.ty.base,.bool m.ty.k,.bool m.ty.l,.bool m.ty.x,.int .u64 m.sum,.int .i64 m.size,.string m.frm,.int .i64 m.fnum]) (by simp [results,Tryz.results76,go_sem,e0,e1,e2,e3,e4,e5,e6,e7,e8,e9,e10,e11]) rfl ⟨rfl,hB3⟩
def zk1 (w:World)(base:Nat)(e:TypeId)(size:Nat)(v:Value)(n:Nat)(xs:List Value):Prop:=
  xs.length=n * size ∧
  ((v=.slice none 0 0∧n=0) ∨
   ∃ g off cap cur,v=.slice (some ⟨g,off,none⟩) n cap∧base≤g∧w.heap[g]? = some (.cells cur e (0,0))∧n≤cap∧cap≤maxLen∧off+cap * size≤cur.size∧(cur.toList.drop off).take (n * size)=xs)
section
variable {w w' : World} {base : Nat} {e : TypeId} {size n : Nat} {v : Value} {xs : List Value}
theorem zk1.of_own (h:w.ownsRow base e size v n xs):zk1 w base e size v n xs:=by
  refine⟨h.1,?_⟩;rcases h.2 with h2 | ⟨g,cap,cur,e1,h3,h4,h5,h6,h7,h8⟩
  · exact .inl h2
  · exact .inr ⟨g,0,cap,cur,e1,h3,h4,h5,h6,by omega,by rw[List.drop_zero];exact h8⟩
theorem zk1.lt (h:zk1 w base e size v n xs):∀ k,v.ownBlock=some k→base≤k∧k<w.heap.size:=by
  intro k hk;rcases h.2 with⟨rfl,_⟩ | ⟨g,off,cap,cur,rfl,hb,hg,_⟩
  · cases hk
  · injection hk with hk
    subst hk;exact⟨hb,(Array.getElem?_eq_some_iff.1 hg).1⟩
theorem zk1.keepAt (h:zk1 w base e size v n xs)(hk:∀ x,v.ownBlock=some x→w'.heap[x]? = w.heap[x]?):zk1 w' base e size v n xs:=by
  refine⟨h.1,?_⟩;rcases h.2 with h2 | ⟨g,off,cap,cur,e1,h3,h4,h5⟩
  · exact .inl h2
  · exact .inr ⟨g,off,cap,cur,e1,h3,(hk g (by rw[e1];rfl)).trans h4,h5⟩
theorem zk1.below (h:zk1 w base e size v n xs)(hb:Below w.heap.size w w'):zk1 w' base e size v n xs:=h.keepAt fun x hx=>hb.block x (h.lt x hx).2
theorem zk1.setCell (h:zk1 w base e size v n xs){p:Addr}(hne:v.ownBlock≠some p.block)(u:Value):zk1 (w.setCell p u) base e size v n xs:=
  h.keepAt fun x hx=>Below.heap_setCell w p u x fun e=>hne (by rw[hx,← e])
theorem zk1.row (h:zk1 w base e size v n xs):Row w size v n xs:=by
  have hl:=h.1;rcases h.2 with⟨rfl,rfl⟩ | ⟨g,off,cap,cur,rfl,_,hg,hnc,hcm,hs,ht⟩
  · exact⟨none,0,rfl,Nat.le_refl _,by simp [maxLen],hl,fun _=>rfl,fun h=>absurd h (by omega)⟩
  · refine⟨_,cap,rfl,hnc,hcm,hl,fun h=>(by cases h),fun _=>⟨_,rfl,(Array.getElem?_eq_some_iff.1 hg).1,fun j u hu=>?_⟩⟩
    rw[Addr.add_lit,cell_of_row w g _ cur e (0,0) hg];rw[← ht,List.getElem?_take] at hu;split at hu
    · rw[List.getElem?_drop] at hu
      simpa using hu
    · cases hu
theorem zk1.tail {ad:Addr}{c:Nat}(h:zk1 w base e size (.slice (some ad) (n+1) c) (n+1) xs):zk1 w base e size (.slice (if c=1 then some ad else some ⟨ad.block,ad.off+size,none⟩) n (c - 1)) n (xs.drop size):=by
  obtain⟨hl,⟨h1,h2⟩ | ⟨g,off,cap,cur,e1,h3,h4,h5,h6,h7,h8⟩⟩:=h
  · omega
  injection e1 with e1 e2 e3
  injection e1 with e1
  subst e1 e3;have hm:(n+1) * size=n * size+size:=Nat.succ_mul n size;refine⟨by rw[List.length_drop,hl,hm];omega,.inr ?_⟩
  by_cases hc:c=1
  · have hn:n=0:=by omega
    subst hn;rw[if_pos hc];refine⟨g,off,c - 1,cur,rfl,h3,h4,by omega,by omega,by rw[hc];omega,?_⟩
    rw[Nat.zero_mul,List.take_zero];refine (List.eq_nil_of_length_eq_zero ?_).symm;rw[List.length_drop,hl];omega
  · rw[if_neg hc]
    have hcm:c * size=(c - 1) * size+size:=by
      have h9:c=(c - 1)+1:=by omega
      conv=>lhs;rw[h9,Nat.succ_mul]
    refine⟨g,off+size,c - 1,cur,rfl,h3,h4,by omega,by omega,by omega,?_⟩
    rw[← h8,hm,← List.drop_drop,List.drop_take,show n * size+size - size=n * size by omega]
theorem zk2 {P:Program}(w:World)(t ty e:TypeId)(i:TypeInfo)(ht:P.underlying t=some (.slice e))(hi:P.info? e=some i)
    (g off sLen sCap:Nat) (cur:Array Value) (hg:w.heap[g]? = some (.cells cur e (0,0)))
    (a:Addr) (m c:Nat) (news:List Value) (hl:news.length=m * i.size) (hnews:∀ j u,news[j]? = some u→w.cell? (a.add j)=some u) (h1:∀ u∈news,u.oneCell'=true)
    (hroom:sLen+m≤sCap) (hfit:off+sLen * i.size+news.length≤cur.size):
    (Builtin.append_ #[t,t] ty #[.slice (some ⟨g,off,none⟩) sLen sCap,.slice (some a) m c]).run P w =
      .ok (.slice (some ⟨g,off,none⟩) (sLen+m) sCap) (w.setRow g (cur.toList.take (off+sLen * i.size)++news++cur.toList.drop (off+sLen * i.size+news.length)).toArray):=by
  have hf:=run_firstCells_some (P:=P) w i.size m a m c news hl hnews;have hst:=run_storeCells_at P g (off+sLen * i.size) e news 0 cur w hg (by simpa using hfit) h1
  simp only[Nat.add_zero] at hst
  simp [Builtin.append_,run_underlying ht,sizeOf,typeInfo,hi,Builtin.lenOf,hroom,hf,Addr.add_lit,hst]
theorem zk3 {P:Program}{W:World}{t ty e:TypeId}{size bytes base:Nat}(he:z0e P t e size bytes){v:Value}{n:Nat}{xs:List Value}(hown:zk1 W base e size v n xs)
    {ad:Addr} {m c:Nat} {news:List Value} (hl:news.length=m * size) (hnews:∀ j u,news[j]? = some u→W.cell? (ad.add j)=some u) (h1:∀ u∈news,u.oneCell'=true) (hm:0<m) (hbytes:(n+m) * bytes≤140737488355328) (h63:n+m≤maxLen) (hbase:base≤W.heap.size):
    ∃ A' c' w',(Builtin.append_ #[t,t] ty #[v,.slice (some ad) m c]).run P W=.ok (.slice A' (n+m) c') w'∧zk1 w' base e size (.slice A' (n+m) c') (n+m) (xs++news)∧W.grownBy w' v.ownBlock ∧
      ((Value.slice A' (n+m) c').ownBlock=v.ownBlock∨(Value.slice A' (n+m) c').ownBlock=some W.heap.size):=by
  rcases hown.2 with⟨rfl,rfl⟩ | ⟨g,off,cap,cur,rfl,hbg,hg,hnc,hcm,hcs,htake⟩
  · have ho:W.ownsRow base e size (.slice none 0 0) 0 xs:=⟨hown.1,.inl ⟨rfl,rfl⟩⟩
    obtain⟨i,z,ht,hi,hz,hsize,hby,hzs,hsz⟩:=he;obtain⟨v',w',hr,h2,h3,h4,h5⟩:=run_append_own_at (P:=P) W base t ty e i z size bytes ht hi hz hsize hby hzs hsz _ 0 xs ho ad m c news hl hnews h1 h63 hbytes hbase;rcases h2.2 with⟨e1,e2⟩ | ⟨g,cap,cur,e1,_⟩
    · omega
    · subst e1
      exact⟨_,_,w',hr,zk1.of_own h2,h3,h5⟩
  · obtain⟨i,z,ht,hi,hz,hsize,hby,hzs,hsz⟩:=he
    subst hsize;subst hby;have hsmall:n+m≤9223372036854775807:=by simp only[maxLen] at h63;omega
    have hlen:(xs++news).length=(n+m) * i.size:=by rw[List.length_append,hown.1,hl,Nat.add_mul]
    by_cases hroom:n+m≤cap
    · have hmul:(n+m) * i.size≤cap * i.size:=Nat.mul_le_mul_right _ hroom
      rw[Nat.add_mul] at hmul;have hfit:off+n * i.size+news.length≤cur.size:=by omega
      have hr:=zk2 (P:=P) W t ty e i ht hi g off n cap cur hg ad m c news hl hnews h1 hroom hfit;refine⟨_,_,_,hr,⟨hlen,.inr ⟨g,off,cap,_,rfl,hbg,setRow_heap W g cur _ e _ hg,hroom,hcm,?_,?_⟩⟩,⟨rfl,rfl,rfl,by simp,fun k _ hk=>setRow_other W g k _ (fun e=>hk (by simp [Value.ownBlock,e]))⟩,Or.inl rfl⟩
      · simp only[List.size_toArray,List.length_append,List.length_take,List.length_drop,Array.length_toList]
        omega
      · have hx:cur.toList.take (off+n * i.size)=cur.toList.take off++xs:=by rw[List.take_add,htake]
        show ((cur.toList.take (off+n * i.size)++news++cur.toList.drop (off+n * i.size+news.length)).drop off).take ((n+m) * i.size)=xs++news
        rw[hx,List.append_assoc,List.append_assoc,List.drop_left' (by rw[List.length_take,Array.length_toList];omega),← List.append_assoc,← hlen]
        exact List.take_left
    · have hfit:Builtin.nextslicecap (n+m) cap * i.bytes≤281474976710656:=growslice_fits (by omega) hbytes
      have holds:∀ j u,xs[j]? = some u→W.cell? ((⟨g,off,none⟩:Addr).add j)=some u:=by
        obtain⟨A',c',e1,-,-,-,-,h9⟩:=hown.row;injection e1 with e1
        intro j u hj;rcases Nat.eq_zero_or_pos n with h0 | h0
        · have hx:xs=[]:=List.eq_nil_of_length_eq_zero (by rw[hown.1,h0];simp)
          rw[hx] at hj;simp at hj
        · obtain⟨ad',e2,-,h10⟩:=h9 h0
          rw[← e1] at e2;injection e2 with e2
          subst e2;exact h10 j u hj
      have hr:=run_append_grow (P:=P) W t ty e i z ht hi hz ⟨g,off,none⟩ n cap xs hown.1 holds ad m c news hl hnews (by omega) (by omega) hfit
      have hge:=grownCap_ge W (n+m) cap e;have hcm:=grownCap_le_maxLen W (n+m) cap e h63;refine⟨_,_,_,hr,⟨hlen,.inr ⟨W.heap.size,0,_,_,rfl,hbase,heap_alloc_new W.drew _,hge,hcm,?_,?_⟩⟩,⟨rfl,rfl,rfl,by simp,fun k hk _=>heap_alloc_old W.drew _ hk⟩,Or.inr rfl⟩
      · simp only[Array.size_append,List.size_toArray,size_zeroCells,hzs,hown.1,hl,← Nat.add_mul]
        refine Nat.le_of_eq ?_;rw[Nat.zero_add];congr 1
        omega
      · rw[List.drop_zero]
        simp only[Array.toList_append,List.append_assoc]
        rw[← List.append_assoc,← hlen];exact List.take_left
end
end Go.Proofs.YtegeboijhifmcaaGreatDoor
