/- A part. -/
import Derived.Test.YtijghobkkdbhnaaGreatDoorMgw18
set_option linter.unusedVariables false
set_option linter.unusedSimpArgs false
set_option maxHeartbeats 4000000
set_option maxRecDepth 100000
namespace Go.Proofs.YtijghobkkdbhnaaGreatDoor
open Go.Proofs.Tryz
open Go.RowKit
def zc7 (l r:Pat)(s:ByteArray):Option ByteArray:=(z8j l s).map (zbz r)
def zc8 (w:World)(o:Option ByteArray)(e:Ending)(w':World):Prop:=e=.returned (.tuple #[.string (o.getD ⟨#[]⟩),.bool o.isSome])∧Below w.heap.size w w'
theorem zc9 (l r:Pat)(s:ByteArray)(A B:Option Addr)(a b:Nat)(w:World)(he:Env w)(hs:s.size≤1000000)(hl:zae w (.slice A l.parts.length a) l)(hr:zae w (.slice B r.parts.length b) r)(hf:∀ caps,z8j l s=some caps→zc0 r caps):
  Calls prog 130 #[.agg #[.slice A l.parts.length a,.bool l.rest],.agg #[.slice B r.parts.length b,.bool r.rest],.string s] w (zc8 w (zc7 l r s)):=by
 have hA:Below w.heap.size w ((w.alloc (.cells #[.slice A l.parts.length a,.bool l.rest] 68)).alloc (.cells #[.slice B r.parts.length b,.bool r.rest] 68)):=((Below.refl _ _).alloc (Nat.le_refl _) _).alloc (by simp) _
 have h2:zbt ((w.alloc (.cells #[.slice A l.parts.length a,.bool l.rest] 68)).alloc (.cells #[.slice B r.parts.length b,.bool r.rest] 68)) w.heap.size (.slice A l.parts.length a) l.rest:=(z0l w [.slice A l.parts.length a,.bool l.rest] 68).alloc _;have h3:zbt ((w.alloc (.cells #[.slice A l.parts.length a,.bool l.rest] 68)).alloc (.cells #[.slice B r.parts.length b,.bool r.rest] 68)) (w.heap.size+1) (.slice B r.parts.length b) r.rest:=by
  have:=z0l (w.alloc (.cells #[.slice A l.parts.length a,.bool l.rest] 68)) [.slice B r.parts.length b,.bool r.rest] 68;rw[World.size_alloc] at this;exact this
 have HM:=hd_ (fun X (hX:Below w.heap.size w X)=>zbp l s A a X (he.below hX) hs (hl.below hX).1 hl.small);have HFI:=hd_ (fun X (hX:Below w.heap.size w X) caps cv (hc:Strs X cv caps) (h:z8j l s=some caps)=>fill_ok r caps B b cv X (he.below hX) (hr.below hX) hc (hf caps h));have HT:Hid (zc7 l r s=(z8j l s).map (zbz r)):=hd_ rfl;clear he hl hr hf;go_enter func130,ntmps130;go_upto_region 1 with fail;generalize (w.alloc (.cells #[.slice A l.parts.length a,.bool l.rest] 68)).alloc (.cells #[.slice B r.parts.length b,.bool r.rest] 68)=W1 at hA h2 h3 ⊢;have x0:=h2.c0;have x1:=h2.c1;have HA:=hd_ hA;have H3:=hd_ h3;have HM1:=hd_ (HM.out W1 hA);clear h2 h3 hA HM;go_wp2_with fail;refine HM1.out.mono ?_;rintro e w2 ⟨A',n,c,rfl,hb,hm⟩;have HB:=hd_ (z0r HA.out hb);have h3:=H3.out.low hb;have y0:=h3.c0;have y1:=h3.c1;clear x0 x1 hb h3 HM1;obtain⟨o,ho⟩:∃ o,z8j l s=o:=⟨_,rfl⟩;have HO:=hd_ ho;rw[ho] at HT hm ⊢;clear ho;cases o with
 | none =>
  have HR:Hid (zc7 l r s=none):=hd_ (by rw[HT.out];rfl)
  clear hm HT;go_wp2_with fail;go_ret2;exact⟨by rw[HR.out];rfl,HB.out⟩
 | some caps =>
  have HR:Hid (zc7 l r s=some (zbz r caps)):=hd_ (by rw[HT.out];rfl)
  obtain⟨rfl,hcs⟩:=hm caps rfl;have HC:=hd_ (HFI.out w2 HB.out caps _ hcs HO.out);generalize zbz r caps=tx at HC HR;clear hm hcs HT HFI;go_wp2_with fail;refine HC.out.mono ?_;rintro e w3 ⟨rfl,hb⟩;have HB3:=hd_ (z0r HB.out hb);clear hb y0 y1;go_wp2_with fail;go_ret2;exact⟨by rw[HR.out];rfl,HB3.out⟩
theorem zca (ex:Bool)(l r:Pat)(s:ByteArray)(A B:Option Addr)(a b:Nat)(w:World)(he:Env w)(hs:s.size≤1000000)(hl:zae w (.slice A l.parts.length a) l)(hr:zae w (.slice B r.parts.length b) r)(h0:zad l r=0)(hf:∀ caps,z8j l s=some caps→zc0 r caps):
  Calls prog 74 #[.agg #[.bool ex,.slice A l.parts.length a,.bool l.rest,.slice B r.parts.length b,.bool r.rest],.string s] w (zc8 w (zc7 l r s)):=by
 have hB:=z0l w [.bool ex,.slice A l.parts.length a,.bool l.rest,.slice B r.parts.length b,.bool r.rest] 74;have hA:Below w.heap.size w (w.alloc (.cells #[.bool ex,.slice A l.parts.length a,.bool l.rest,.slice B r.parts.length b,.bool r.rest] 74)):=(Below.refl _ _).alloc (Nat.le_refl _) _;have HC:=hd_ (fun X (hX:Below w.heap.size w X)=>zaf ex l r A B a b X (hl.below hX) (hr.below hX));rw[h0] at HC;have HT:=hd_ (fun X (hX:Below w.heap.size w X)=>zc9 l r s A B a b X (he.below hX) hs (hl.below hX) (hr.below hX) hf);clear he hl hr hf h0;generalize zc7 l r s=o at HT ⊢;go_enter func74,ntmps74;go_upto_region 1 with fail;generalize w.alloc (.cells #[.bool ex,.slice A l.parts.length a,.bool l.rest,.slice B r.parts.length b,.bool r.rest] 74)=W1 at hA hB ⊢;obtain⟨d0,d1,d2,d3,d4⟩:=(⟨hB.cell 0,hB.cell 1,hB.cell 2,hB.cell 3,hB.cell 4⟩:W1.cell? ⟨w.heap.size,0,none⟩=some (.bool ex)∧W1.cell? ⟨w.heap.size,1,none⟩=some (.slice A l.parts.length a)∧W1.cell? ⟨w.heap.size,2,none⟩=some (.bool l.rest)∧W1.cell? ⟨w.heap.size,3,none⟩=some (.slice B r.parts.length b)∧W1.cell? ⟨w.heap.size,4,none⟩=some (.bool r.rest));have HB:=hd_ hB;have HA:=hd_ hA;have HC1:=hd_ (HC.out W1 hA);clear hA hB HC;go_wp2_with fail;refine HC1.out.mono ?_;rintro e w2 ⟨rfl,hb⟩;have hB2:=HB.out.below hb HB.out.lt;have HB2:=hd_ (z0r HA.out hb);have HT2:=hd_ (HT.out w2 HB2.out);clear hb d0 d1 d2 d3 d4 HC1 HT;obtain⟨d1,d2,d3,d4⟩:=(⟨hB2.cell 1,hB2.cell 2,hB2.cell 3,hB2.cell 4⟩:w2.cell? ⟨w.heap.size,1,none⟩=some (.slice A l.parts.length a)∧w2.cell? ⟨w.heap.size,2,none⟩=some (.bool l.rest)∧w2.cell? ⟨w.heap.size,3,none⟩=some (.slice B r.parts.length b)∧w2.cell? ⟨w.heap.size,4,none⟩=some (.bool r.rest));clear hB2;go_wp2_with fail;refine HT2.out.mono ?_;rintro e w3 ⟨rfl,hb⟩;have HB3:=hd_ (z0r HB2.out hb);clear hb d1 d2 d3 d4;go_wp2_with fail;go_ret2;exact⟨rfl,HB3.out⟩
theorem zhy (a b:Ty)(W:World):(binOp .neq 85 (.agg #[.int .i64 a.base,.bool a.k,.bool a.l,.bool a.x]) (.agg #[.int .i64 b.base,.bool b.k,.bool b.l,.bool b.x])).run prog W=.ok (.bool (!decide (a=b))) W:=by
 obtain⟨a0,a1,a2,a3⟩:=a;obtain⟨b0,b1,b2,b3⟩:=b;rw[run_neq_struct,run_equalIn_agg W 9999 85 _ _ (by kernel_rfl) (by kernel_rfl)]
 simp [go_sem,Op.eqFields]
 by_cases h1:a0=b0 <;> by_cases h2:a1=b1 <;> by_cases h3:a2=b2 <;> by_cases h4:a3=b3 <;> simp [h1,h2,h3,h4]
theorem zhz (a b c d:Int)(W:World):(binOp .neq 88 (.agg #[.int .u64 a,.int .i64 b]) (.agg #[.int .u64 c,.int .i64 d])).run prog W=.ok (.bool (!(decide (a=c) && decide (b=d)))) W:=by
 rw[run_neq_struct,run_equalIn_agg W 9999 88 _ _ (by kernel_rfl) (by kernel_rfl)]
 simp [go_sem,Op.eqFields]
 by_cases h1:a=c <;> by_cases h2:b=d <;> simp [h1,h2]
theorem zi0 (f:ByteArray→Option Rev)(x:Edt)(g:Nat)(dv dr ev rv:Value)(n:Int)(cl tx:ByteArray)(bl be bn:Nat)(w:World)(hk:Chk w g dv dr n cl tx ev rv bl be bn)(hL:z7w w bl f)
  (h1:0≤(z2x f x.path).num) (h2:(z2x f x.path).num≤1000000):
  Calls prog 85 #[.pointer (some ⟨g,0,none⟩),.agg #[.string x.path,.int .i64 x.act,.int .i64 x.ty.base,.bool x.ty.k,.bool x.ty.l,.bool x.ty.x,.int .u64 x.sum,.int .i64 x.size,.int .i64 x.base,.string x.frm,.int .i64 x.fnum,.int .i64 x.fence]] w
   fun e w'=>e=.returned (.agg #[.string (z2z f n x).path,.int .i64 (z2z f n x).num,.int .i64 (z2z f n x).chg,.int .i64 (z2z f n x).act,.int .i64 (z2z f n x).ty.base,.bool (z2z f n x).ty.k,.bool (z2z f n x).ty.l,.bool (z2z f n x).ty.x,.int .u64 (z2z f n x).sum,.int .i64 (z2z f n x).size,.string (z2z f n x).frm,.int .i64 (z2z f n x).fnum])∧Below w.heap.size w w':=by
 obtain⟨W,hW⟩:∃ W,W=(w.alloc (.cells #[.string x.path,.int .i64 x.act,.int .i64 x.ty.base,.bool x.ty.k,.bool x.ty.l,.bool x.ty.x,.int .u64 x.sum,.int .i64 x.size,.int .i64 x.base,.string x.frm,.int .i64 x.fnum,.int .i64 x.fence] 100)).alloc (.cells #[.string ⟨#[]⟩,.int .i64 0,.int .i64 0,.int .i64 0,.int .i64 0,.bool false,.bool false,.bool false,.int .u64 0,.int .i64 0,.string ⟨#[]⟩,.int .i64 0] 90):=⟨_,rfl⟩;have hbW:Below w.heap.size w W:=by rw[hW];exact ((Below.refl _ _).alloc (Nat.le_refl _) _).alloc (by simp) _
 have hX:Blk W w.heap.size 100 [.string x.path,.int .i64 x.act,.int .i64 x.ty.base,.bool x.ty.k,.bool x.ty.l,.bool x.ty.x,.int .u64 x.sum,.int .i64 x.size,.int .i64 x.base,.string x.frm,.int .i64 x.fnum,.int .i64 x.fence]:=by rw[hW];exact (z0l w _ _).alloc _
 have hZ:Blk W (w.heap.size+1) 90 [.string ⟨#[]⟩,.int .i64 0,.int .i64 0,.int .i64 0,.int .i64 0,.bool false,.bool false,.bool false,.int .u64 0,.int .i64 0,.string ⟨#[]⟩,.int .i64 0]:=by
  rw[hW];have:=z0l (w.alloc (.cells #[.string x.path,.int .i64 x.act,.int .i64 x.ty.base,.bool x.ty.k,.bool x.ty.l,.bool x.ty.x,.int .u64 x.sum,.int .i64 x.size,.int .i64 x.base,.string x.frm,.int .i64 x.fnum,.int .i64 x.fence] 100)) [.string ⟨#[]⟩,.int .i64 0,.int .i64 0,.int .i64 0,.int .i64 0,.bool false,.bool false,.bool false,.int .u64 0,.int .i64 0,.string ⟨#[]⟩,.int .i64 0] 90;simpa using this
 have hK:Chk W g dv dr n cl tx ev rv bl be bn:=Blk.below hk hbW (Blk.lt hk);have hlk:=z7w.look (w:=W.drew) (z2f.below hL hbW.drew) x.path;obtain⟨-,-,k2,-,-,k7,-,-⟩:=z4a hK;have HW:=hd_ hW;have HM:Hid (z2z f n x=⟨x.path,(z2x f x.path).num+1,n,x.act,x.ty,x.sum,x.size,x.frm,x.fnum⟩):=hd_ rfl;clear hW hK;generalize z2x f x.path=r at hlk HM h1 h2;generalize z2z f n x=m at HM ⊢;obtain⟨c0,c1,c2,c3,c4,c5,c6,c7,c8,c9,c10,c11⟩:=z84 hX;go_enter func85,ntmps85;go_wp2_with fail;rw[← HW.out];have hwr:IntKind.i64.wrap (r.num+1)=r.num+1:=IntWalk.i64_in _ (by omega)
 have hfl:∀ w,(Instr.field 90 (.agg #[.string r.path,.int .i64 r.num,.int .i64 r.chg,.int .i64 r.act,.int .i64 r.ty.base,.bool r.ty.k,.bool r.ty.l,.bool r.ty.x,.int .u64 r.sum,.int .i64 r.size,.string r.frm,.int .i64 r.fnum]) 1).run prog w=.ok (.int .i64 r.num) w:=fun w=>by kernel_rfl
 go_still_tail 27,(by kernel_rfl)
 change wpList _ _ _ _ _ W.drew;clear hwr hfl hlk c0 c1 c2 c3 c4 c5 c6 c7 c8 c9 c10 c11 k2 k7;have hB2:Below w.heap.size w W.drew:=hbW.drew;have hZ2:Blk W.drew (w.heap.size+1) 90 [.string ⟨#[]⟩,.int .i64 0,.int .i64 0,.int .i64 0,.int .i64 0,.bool false,.bool false,.bool false,.int .u64 0,.int .i64 0,.string ⟨#[]⟩,.int .i64 0]:=hZ;generalize W.drew=W2 at hB2 hZ2 ⊢;obtain⟨z0,z1,z2,z3,z4,z5,z6,z7,z8,z9,z10,z11⟩:=z84 hZ2;obtain⟨y0,y1,y2,y3,y4,y5,y6,y7,y8,y9,y10,y11⟩:=ze4 hZ2;go_wp2_with fail;have hZ3:=ze5 hZ2 ⟨x.path,r.num+1,n,x.act,x.ty,x.sum,x.size,x.frm,x.fnum⟩;have hB3:=ze6 hB2 (show w.heap.size≤w.heap.size+1 by omega) ⟨x.path,r.num+1,n,x.act,x.ty,x.sum,x.size,x.frm,x.fnum⟩
 rw[← HM.out] at hZ3 hB3;have e:((((((((((((W2.setCell ⟨w.heap.size+1,0,none⟩ (.string m.path)).setCell ⟨w.heap.size+1,1,none⟩ (.int .i64 m.num)).setCell ⟨w.heap.size+1,2,none⟩ (.int .i64 m.chg)).setCell ⟨w.heap.size+1,3,none⟩ (.int .i64 m.act)).setCell ⟨w.heap.size+1,4,none⟩ (.int .i64 m.ty.base)).setCell ⟨w.heap.size+1,5,none⟩ (.bool m.ty.k)).setCell ⟨w.heap.size+1,6,none⟩ (.bool m.ty.l)).setCell ⟨w.heap.size+1,7,none⟩ (.bool m.ty.x)).setCell ⟨w.heap.size+1,8,none⟩ (.int .u64 m.sum)).setCell ⟨w.heap.size+1,9,none⟩ (.int .i64 m.size)).setCell ⟨w.heap.size+1,10,none⟩ (.string m.frm)).setCell ⟨w.heap.size+1,11,none⟩ (.int .i64 m.fnum))=((((((((((((W2.setCell ⟨w.heap.size+1,0,none⟩ (.string ((⟨x.path,r.num+1,n,x.act,x.ty,x.sum,x.size,x.frm,x.fnum⟩:Rev)).path)).setCell ⟨w.heap.size+1,1,none⟩ (.int .i64 ((⟨x.path,r.num+1,n,x.act,x.ty,x.sum,x.size,x.frm,x.fnum⟩:Rev)).num)).setCell ⟨w.heap.size+1,2,none⟩ (.int .i64 ((⟨x.path,r.num+1,n,x.act,x.ty,x.sum,x.size,x.frm,x.fnum⟩:Rev)).chg)).setCell ⟨w.heap.size+1,3,none⟩ (.int .i64 ((⟨x.path,r.num+1,n,x.act,x.ty,x.sum,x.size,x.frm,x.fnum⟩:Rev)).act)).setCell ⟨w.heap.size+1,4,none⟩ (.int .i64 ((⟨x.path,r.num+1,n,x.act,x.ty,x.sum,x.size,x.frm,x.fnum⟩:Rev)).ty.base)).setCell ⟨w.heap.size+1,5,none⟩ (.bool ((⟨x.path,r.num+1,n,x.act,x.ty,x.sum,x.size,x.frm,x.fnum⟩:Rev)).ty.k)).setCell ⟨w.heap.size+1,6,none⟩ (.bool ((⟨x.path,r.num+1,n,x.act,x.ty,x.sum,x.size,x.frm,x.fnum⟩:Rev)).ty.l)).setCell ⟨w.heap.size+1,7,none⟩ (.bool ((⟨x.path,r.num+1,n,x.act,x.ty,x.sum,x.size,x.frm,x.fnum⟩:Rev)).ty.x)).setCell ⟨w.heap.size+1,8,none⟩ (.int .u64 ((⟨x.path,r.num+1,n,x.act,x.ty,x.sum,x.size,x.frm,x.fnum⟩:Rev)).sum)).setCell ⟨w.heap.size+1,9,none⟩ (.int .i64 ((⟨x.path,r.num+1,n,x.act,x.ty,x.sum,x.size,x.frm,x.fnum⟩:Rev)).size)).setCell ⟨w.heap.size+1,10,none⟩ (.string ((⟨x.path,r.num+1,n,x.act,x.ty,x.sum,x.size,x.frm,x.fnum⟩:Rev)).frm)).setCell ⟨w.heap.size+1,11,none⟩ (.int .i64 ((⟨x.path,r.num+1,n,x.act,x.ty,x.sum,x.size,x.frm,x.fnum⟩:Rev)).fnum)):=by rw[HM.out]
 dsimp only at e
 rw[← e];generalize ((((((((((((W2.setCell ⟨w.heap.size+1,0,none⟩ (.string m.path)).setCell ⟨w.heap.size+1,1,none⟩ (.int .i64 m.num)).setCell ⟨w.heap.size+1,2,none⟩ (.int .i64 m.chg)).setCell ⟨w.heap.size+1,3,none⟩ (.int .i64 m.act)).setCell ⟨w.heap.size+1,4,none⟩ (.int .i64 m.ty.base)).setCell ⟨w.heap.size+1,5,none⟩ (.bool m.ty.k)).setCell ⟨w.heap.size+1,6,none⟩ (.bool m.ty.l)).setCell ⟨w.heap.size+1,7,none⟩ (.bool m.ty.x)).setCell ⟨w.heap.size+1,8,none⟩ (.int .u64 m.sum)).setCell ⟨w.heap.size+1,9,none⟩ (.int .i64 m.size)).setCell ⟨w.heap.size+1,10,none⟩ (.string m.frm)).setCell ⟨w.heap.size+1,11,none⟩ (.int .i64 m.fnum))=W3 at hZ3 hB3 ⊢;obtain⟨e0,e1,e2,e3,e4,e5,e6,e7,e8,e9,e10,e11⟩:=z84 hZ3;refine bodyPost_ret (v:=.agg #[.string m.path,.int .i64 m.num,.int .i64 m.chg,.int .i64 m.act,.int .i64 m.ty.base,.bool m.ty.k,.bool m.ty.l,.bool m.ty.x,.int .u64 m.sum,.int .i64 m.size,.string m.frm,.int .i64 m.fnum]) (by simp [results,results85,go_sem,e0,e1,e2,e3,e4,e5,e6,e7,e8,e9,e10,e11]) rfl ⟨rfl,hB3⟩
open Go.Sort (grow)
section
variable {u0 u1 u2 u3 u4 u5 u6 u7 u8 u9 gz gA gC gD gE gF gG gH gI gJ gK gL gM gN gO gP gQ gR gT gV gW gX gY gZ i6 i7 i8 ia ib ic ie ig ii ij ik il im io ip iq ir iu iv iw ix iy iz iA iB iC iD iE iF iG iH iI iJ iK iL iM iN iO iP iQ iR iS iT iU iV iW iX iY iZ j0 j1 j2 j5 j6 j7 j8 j9 jb jd jf jg jh ji jj jk jl bB bD bE bF bG bH bI bJ bK bL bM bN bO bP bQ bT bU bV bW bX bY bZ cj ck cn cx cy : Value}
theorem zki {P:Program}{W:World}{ops:Array Oper}{o:Oper}{a:Act}{K:Act→World→Prop}{Q:Exit→Act→World→Prop}{E:Prop}(hgd:o.guard=none){s x:Operand}{t:TypeId}
  (ho:o.op=.call { callee:=.builtin .append,args:=#[s,x],argTypes:=#[t,t] })
  {e:TypeId} {size bytes base:Nat} (he:z0e P t e size bytes) {v:Value} {n:Nat} {xs:List Value} (hown:zjl W base e size v n xs) (hs:a.eval s=v)
  {ad:Addr} {m c:Nat} {news:List Value} (hx:a.eval x=.slice (some ad) m c) (hl:news.length=m * size) (hnews:∀ j u,news[j]? = some u→W.cell? (ad.add j)=some u) (h1:∀ u∈news,u.oneCell'=true) (hm:0<m) (hbytes:(n+m) * bytes≤140737488355328) (h63:n+m≤maxLen) (hbase:base≤W.heap.size)
  (h:∀ A' c' w',zjl w' base e size (.slice A' (n+m) c') (n+m) (xs++news)→W.grownBy w' v.ownBlock →
   ((Value.slice A' (n+m) c').ownBlock=v.ownBlock∨(Value.slice A' (n+m) c').ownBlock=some W.heap.size)→K (a.put o.dst (.slice A' (n+m) c')) w'):
  if Region.wanted o (yielded ops a.tmps)=true then Oper.wp P o a W K Q else E:=by
 have hw:Region.wanted o (yielded ops a.tmps)=true:=by simp [Region.wanted,hgd]
 rw[if_pos hw];obtain⟨A',c',w',hrun,h2,h3,h4⟩:=zjn (ty:=o.type) he hown hl hnews h1 hm hbytes h63 hbase;unfold Oper.wp execOp;simp only[ho,resolve,invoke,builtin,Sem.run_bind,Sem.run_pure,Result.andThen_ok,List.map_toArray,List.map_cons,List.map_nil,hs,hx]
 rw[hrun];exact h A' c' w' h2 h3 h4
theorem zkj (W:World)(cs:List Value)(t:TypeId):∀ j u,cs[j]? = some u→(W.alloc (.cells cs.toArray t)).cell? ((⟨W.heap.size,0,none⟩:Addr).add j)=some u:=by
 intro j u hu;rw[Addr.add_lit,World.cell?_alloc_mark];simpa using hu
def zkk (V w':World)(v:Value):Prop:=∃ Y,Below V.heap.size V Y∧Y.grownBy w' v.ownBlock
theorem zkk.block {V w':World}{v:Value}(h:zkk V w' v){k:Nat}(hk:k<V.heap.size)(hne:v.ownBlock≠some k):w'.heap[k]? = V.heap[k]?:=by
 obtain⟨Y,h1,h2⟩:=h;exact (h2.block k (Nat.lt_of_lt_of_le hk h1.size) (fun e=>hne e.symm)).trans (h1.block k hk)
theorem zkk.size {V w':World}{v:Value}(h:zkk V w' v):V.heap.size≤w'.heap.size:=by
 obtain⟨Y,h1,h2⟩:=h;exact Nat.le_trans h1.size h2.size
theorem zkk.low {V w' X:World}{v:Value}{B:Nat}(h:zkk V w' v)(hX:Below B X V)(hB:B≤V.heap.size)(hv:∀ k,v.ownBlock=some k→B≤k):Below B X w':=by
 obtain⟨Y,h1,h2⟩:=h;exact (hX.trans (h1.mono hB)).grown h2 (Nat.le_trans hB h1.size) hv
theorem bkR26 (ops:Array Oper)(hops:Tryz.f47.body.bind (zcn 26)=some ops)(Q:Exit→Act→World→Prop)(V1:World)(g n c i nq cq B2:Nat)(Aq:Option Addr)(xs:List Value)(p f:ByteArray)
  (hq:zjl V1 B2 96 3 (.slice Aq nq cq) nq xs) (hp1:V1.cell? ⟨g,i * 5+1,none⟩=some (.string p)) (hp3:V1.cell? ⟨g,i * 5+3,none⟩=some (.string f)) (hi:i<n) (hB2:B2≤V1.heap.size) (hg:g<B2) (hnq:nq≤2000000)
  (hQ:∀(ar au aw ax ay az aA aB aC aD aE aF aG aH:Value) (A':Option Addr) (c':Nat) (w':World),Hid (zjl w' B2 96 3 (.slice A' (nq+1) c') (nq+1) (xs++[.string p,.int .i64 0,.string f])∧zkk V1 w' (.slice Aq nq cq)∧((Value.slice A' (nq+1) c').ownBlock=(Value.slice Aq nq cq).ownBlock∨∃ x,(Value.slice A' (nq+1) c').ownBlock=some x∧V1.heap.size≤x))→Q .normal ⟨#[u0,.slice (some ⟨g,0,none⟩) n c,u2,u3,u4,u5,u6,u7,.slice A' (nq+1) c',u9,gz,gA,gC,gD,gE,.int .i64 i,gG,gH,gI,gJ,gK,gL,gM,gN,gO,gP,gQ,gR,gT,gV,gW,gX,gY,gZ,i6,i7,i8,ia,ib,ic,ie,ig,ii,ij,ik,il,im,io,ip,iq,ir,iu,iv,iw,ix,iy,iz,iA,iB,iC,iD,iE,iF,iG,iH,iI,iJ,iK,iL,iM,iN,iO,iP,iQ,iR,iS,iT,iU,iV,iW,iX,iY,iZ,j0,j1,j2,j5,j6,j7,j8,j9,jb,jd,jf,jg,jh,ji,jj,jk,jl,bB,bD,bE,bF,bG,bH,bI,bJ,bK,bL,bM,bN,ar,au,aw,ax,ay,az,aA,aB,aC,aD,aE,aF,aG,aH,cy],[]⟩ w'):
  (Code.region 26 ops true).wp prog Q ⟨#[u0,.slice (some ⟨g,0,none⟩) n c,u2,u3,u4,u5,u6,u7,.slice Aq nq cq,u9,gz,gA,gC,gD,gE,.int .i64 i,gG,gH,gI,gJ,gK,gL,gM,gN,gO,gP,gQ,gR,gT,gV,gW,gX,gY,gZ,i6,i7,i8,ia,ib,ic,ie,ig,ii,ij,ik,il,im,io,ip,iq,ir,iu,iv,iw,ix,iy,iz,iA,iB,iC,iD,iE,iF,iG,iH,iI,iJ,iK,iL,iM,iN,iO,iP,iQ,iR,iS,iT,iU,iV,iW,iX,iY,iZ,j0,j1,j2,j5,j6,j7,j8,j9,jb,jd,jf,jg,jh,ji,jj,jk,jl,bB,bD,bE,bF,bG,bH,bI,bJ,bK,bL,bM,bN,bO,bP,bQ,bT,bU,bV,bW,bX,bY,bZ,cj,ck,cn,cx,cy],[]⟩ V1:=by
 simp only[Tryz.f47,Option.bind_some,zcn] at hops
 simp at hops
 subst hops;have HQ:=hd_ hQ;have HQU:=hd_ hq;have hda:Below V1.heap.size V1 (V1.alloc (.cells #[.string p,.int .i64 0,.string f] 96)).drew:=(zck (Below.refl _ _) _).drew;have HDA:=hd_ hda;have HSZ:Hid (B2≤(V1.alloc (.cells #[.string p,.int .i64 0,.string f] 96)).drew.heap.size):=hd_ (Nat.le_trans hB2 hda.size);have HN:Hid (∀ j u,[Value.string p,Value.int .i64 0,Value.string f][j]? = some u→(V1.alloc (.cells #[.string p,.int .i64 0,.string f] 96)).drew.cell? ((⟨V1.heap.size,0,none⟩:Addr).add j)=some u):=hd_ (zkj V1 _ _);clear hQ hq hda hB2 hg;refine wp_region_noPanic ?_;go_region_law (first
  | (refine zki (base:=B2) rfl rfl z54 (HQU.out.below HDA.out) (by simp [Act.eval,Act.put];done) (ad:=⟨V1.heap.size,0,none⟩) (m:=1) (c:=1) (by simp [Act.eval,Act.put];done) (news:=[.string p,.int .i64 0,.string f]) rfl HN.out (by simp [Value.oneCell']) (by omega) (by omega) (by unfold maxLen;omega) HSZ.out ?_;intro A6 c6 w6 hO6 hG6 hw6))
 all_goals exact NoPanic.normal (HQ.out _ _ _ _ _ _ _ _ _ _ _ _ _ _ _ _ _ (hd_ ⟨hO6,⟨_,HDA.out,hG6⟩,hw6.imp id (fun e=>⟨_,e,HDA.out.size⟩)⟩))
end
theorem z6y.grown_own {S:List Nat}{w W w':World}{row:Option Nat}(h:z6y S w W)(hg:W.grownBy w' row)(hr:∀ k,row=some k→w.heap.size≤k):z6y S w w':=
 ⟨hg.os.trans h.os,hg.tape.trans h.tape,hg.output.trans h.output,Nat.le_trans h.size hg.size,fun k hk hs=>(hg.block k (Nat.lt_of_lt_of_le hk h.size) (fun e=>by have:=hr k e.symm;omega)).trans (h.block k hk hs)⟩
theorem z6y.under {S:List Nat}{w W w':World}(h:z6y S w W)(hb:Below W.heap.size W w'):z6y S w w':=h.trans (z6y.below hb)
theorem zl2 {S:List Nat}{w w':World}{B:Nat}{e:TypeId}{size n:Nat}{v:Value}{xs:List Value}(h:w.ownsRow B e size v n xs)(hK:z6y S w w')(hS:∀ x,v.ownBlock=some x→x∉S):w'.ownsRow B e size v n xs:=by
 refine⟨h.1,?_⟩;rcases h.2 with e1 | ⟨g,cap,cur,e1,h1,h2,h3⟩
 ·exact .inl e1
 ·exact .inr ⟨g,cap,cur,e1,h1,(hK.block g (Array.getElem?_eq_some_iff.1 h2).1 (hS g (by rw[e1];rfl))).trans h2,h3⟩
def zl3 (D:List Rev):Int:=(D.getLast?.map (·.chg)).getD 0
theorem zl4 {D:List Rev}{k:Nat}(hk:D.length=k+1):zl3 D=(D[k]'(by omega)).chg:=by
 have e:D.getLast? = some (D[k]'(by omega)):=by
  rw[List.getLast?_eq_getElem?,show D.length - 1=k by omega,List.getElem?_eq_getElem]
 unfold zl3;rw[e];rfl
theorem zl5 (D:List Rev)(dv dr:Value)(w:World)(hR:z45 w dv D)(hl:D.length≤1000000):Calls prog 23 #[.agg #[dv,dr]] w fun e w'=>e=.returned (.int .i64 (zl3 D))∧Below w.heap.size w w':=by
 obtain⟨A,c,rfl,-⟩:=id hR;have hB:=z0l w [.slice A D.length c,dr] 27;have hA:Below w.heap.size w (w.alloc (.cells #[.slice A D.length c,dr] 27)):=(Below.refl _ _).alloc (Nat.le_refl _) _;have HR:=hd_ (hR.below hA);have HA:=hd_ hA;clear hR hA;go_enter func23,ntmps23;go_upto_region 1 with fail;generalize w.alloc (.cells #[.slice A D.length c,dr] 27)=W1 at hB HR HA ⊢;have d0:W1.cell? ⟨w.heap.size,0,none⟩=some (.slice A D.length c):=hB.cell 0;clear hB;rcases Nat.eq_zero_or_pos D.length with h0 | h0
 ·have hD:D=[]:=List.eq_nil_of_length_eq_zero h0;subst hD;have HT:Hid (zl3 []=0):=hd_ rfl;go_wp2_with fail;go_ret;exact⟨z34 HT.out.symm,HA.out⟩
 ·obtain⟨k,hk⟩:∃ k,D.length=k+1:=⟨D.length - 1,by omega⟩
  obtain⟨ad,rfl,hab,hc⟩:=HR.out.at_ (k:=k) (by omega)
  have HT:=hd_ (zl4 hk);generalize D[k]=r at hc HT;obtain⟨-,-,c2,-⟩:=hc;have q0:((D.length:Int) == 0)=false:=by rw[beq_eq_false_iff_ne];omega
  have q1:IntKind.i64.wrap ((D.length:Int) - 1)=(k:Int):=by rw[IntKind.wrap_i64];omega
  have q2:¬((k:Int)<0):=by omega
  have q3:(k:Int)<(D.length:Int):=by omega
  have q4:¬ D=[]:=by rintro rfl;simp at hk
  clear hk h0 hl;go_wp2_with fail;go_ret;exact⟨z34 HT.out.symm,HA.out⟩
theorem zl6 (w:World):Calls prog 26 #[] w fun e w'=>e=.returned (.slice (some ⟨w.heap.size,0,none⟩) 6 6)∧w'=w.alloc (.cells (zfm.map Value.string).toArray 9):=by
 go_enter func26,ntmps26;go_wp2_with fail;go_ret;exact⟨rfl,rfl⟩
theorem zl7 (w:World):Calls prog 16 #[] w fun e w'=>e=.returned (.slice (some ⟨w.heap.size,0,none⟩) 8 8)∧w'=w.alloc (.cells (zkz.map Value.string).toArray 9):=by
 go_enter func16,ntmps16;go_wp2_with fail;go_ret;exact⟨rfl,rfl⟩
theorem zl8:z0e prog 29 9 1 16:=z0f underlying29 (z:=.string ⟨#[]⟩) (by kernel_rfl) rfl (by decide)
theorem hI_lt {w:World}{B g:Nat}{e:TypeId}{size n:Nat}{v:Value}{xs:List Value}(h:w.ownsRow B e size v n xs)(hg:g<B):∀ x,v.ownBlock=some x→x≠g:=fun x hx=>by have:=(h.lt x hx).1;omega
structure FewSt (w wr:World)(U g m:Nat)(l l':List ByteArray)(v:Value):Prop where
 own:wr.ownsRow w.heap.size 9 1 v l'.length (l'.map .string)
 tape:zgm wr U g (m+1+l'.length)
 kept:z6y [g] w wr
 sub:∀ x∈l',x∈l
def zl9 (w:World)(U g m:Nat)(l:List ByteArray)(e:Ending)(w':World):Prop:=∃(l':List ByteArray) (v:Value),e=.returned v∧Strs w' v l'∧l'.length≤2∧(∀ x∈l',x∈l)∧zgm w' U g (m+3)∧z6y [g] w w'∧∀ x,v.ownBlock=some x→w.heap.size≤x
theorem zla (U g m:Nat)(l:List ByteArray)(A:Option Addr)(c:Nat)(w:World)(hT:zgm w U g m)(hU:U≤w.heap.size)(hm:m≤100000)(hL:∀ W,z6y [g] w W→Strs W (.slice A l.length c) l)(h0:0<l.length)(hl:l.length≤1000):
  Calls prog 25 #[.pointer (some ⟨g,0,none⟩),.slice A l.length c] w (zl9 w U g m l):=by
 have hg:=hT.lt;have HN:=hd_ (zgn U g m 3 w hT (by omega) (by omega))
 have HL:=hd_ hL;clear hT hL;go_enter func25,ntmps25;go_wp2_with (refine HN.out.mono ?_;rintro e w1 ⟨k,rfl,hk,hT1,hK1⟩)
 obtain⟨j,rfl⟩:∃ j:Nat,k=j:=⟨k.toNat,by have:=hk.1;omega⟩
 have hj2:j≤2:=by have:=hk.2.1 (by omega);omega
 have HS0:Hid (FewSt w w1 U g m l [] (.slice none 0 0)):=hd_ ⟨World.ownsRow_nil _ _ _ _,hT1,hK1,fun x h=>by cases h⟩
 clear hk hT1 hK1 HN;go_loopw [5,6] (fun v i wr=>∃(j:Nat) (l':List ByteArray) (A':Option Addr) (c':Nat),v=.slice A' l'.length c'∧i=.int .i64 j∧l'.length+j≤2∧Hid (FewSt w wr U g m l l' v)) (fun _ i _=>(intOf i).toNat)
 case atStart=>exact⟨j,[],none,0,rfl,rfl,by simpa using hj2,HS0⟩
 case round =>
  obtain⟨j,l',A',c',rfl,rfl,hlj,HI⟩:=hrel;by_cases h1:0<j
  ·have q1:decide ((0:Int)<(j:Int))=true:=by simp;omega
   have q2:decide ((0:Int)<(l.length:Int))=true:=by simp;omega
   have HX:=hd_ (zgn U g (m+1+l'.length) l.length wr HI.out.tape (by omega) (by omega))
   go_wp2_with (refine HX.out.mono ?_;rintro e w2 ⟨k,rfl,hk,hT2,hK2⟩)
   obtain⟨kk,rfl⟩:∃ kk:Nat,k=kk:=⟨k.toNat,by have:=hk.1;omega⟩
   have hkk:kk<l.length:=by
    rcases Nat.lt_or_ge 1 l.length with h | h
    ·have:=hk.2.1 (by omega);omega
    ·have:=hk.2.2 (by omega);omega
   obtain⟨ad,rfl,hab,s0⟩:=Strs.at_ (HL.out w2 (HI.out.kept.trans hK2)) hkk;have HQM:=hd_ (show l[kk]∈l from List.getElem_mem hkk);generalize l[kk]=q at s0 HQM;have hgl:=hI_lt HI.out.own hg;have hown2:w2.ownsRow w.heap.size 9 1 (.slice A' l'.length c') l'.length (l'.map .string):=zl2 HI.out.own hK2 (fun x hx=>by rw[List.mem_singleton];exact hgl x hx)
   have HOWN:=hd_ (zcl hown2 (.cells #[.string q] 9));have HT2:=hd_ hT2;have HK2:=hd_ (HI.out.kept.trans hK2);have hb2:w.heap.size≤(w2.alloc (.cells #[.string q] 9)).heap.size:=by have:=HK2.out.size;simp;omega
   have HH1:=hd_ h1;clear hk hT2 hK2 hown2 hgl h1;go_wp2_with fail;go_simp
   go_wp2_with (at_builtin;refine z0j (base:=w.heap.size) rfl rfl zl8 HOWN.out rfl (z0i w2 [.string q] _ 1 1 rfl (by decide) _ (by simp)) rfl (by simp [Value.oneCell']) (by omega) (by unfold maxLen;omega) hb2 ?_;intro A6 c6 w6 hO6 hG6 hw6)
   have HN6:Hid (FewSt w w6 U g m l (l'++[q]) (.slice A6 (l'.length+1) c6)):=hd_ (by
    have hK6:z6y [g] w w6:=(HK2.out.under ((Below.refl _ _).alloc (Nat.le_refl _) _)).grown_own hG6 (fun k e=>(HOWN.out.lt k e).1);refine⟨?_,?_,hK6,fun x hx=>?_⟩
    ·rw[List.length_append,List.map_append];exact hO6
    ·have ht:=(HT2.out.below ((Below.refl _ _).alloc (Nat.le_refl _) (.cells #[.string q] 9)));have ht2:=ht.keep hG6.size (fun x hx=>hG6.block x (by simp;have:=HK2.out.size;omega) (fun e=>by have:=(HOWN.out.lt x e.symm).1;omega))
     rw[List.length_append];exact ht2
    ·rcases List.mem_append.1 hx with hx | hx
     ·exact HI.out.sub x hx
     ·rw[List.mem_singleton] at hx;rw[hx];exact HQM.out)
   have h1:=HH1.out;have q5:IntKind.i64.wrap ((j:Int) - 1)=((j - 1:Nat):Int):=by rw[IntKind.wrap_i64];omega
   clear hO6 hG6 hw6;go_wp2_with fail;go_roundw
   case rel=>exact⟨j - 1,l'++[q],A6,c6,by rw[List.length_append];rfl,by first | rfl | go_num,by rw[List.length_append];simp;omega,HN6⟩
   case measure=>simp [intOf];omega
  ·have h0j:j=0:=by omega
   subst h0j;have q1:decide ((0:Int)<((0:Nat):Int))=false:=by simp
   have HF:=hd_ (fun(X:World) (hX:X=wr)=>(⟨l',_,rfl,Row.of_own HI.out.own,by omega,HI.out.sub,HI.out.tape.mono (by omega),HI.out.kept,fun x hx=>(HI.out.own.lt x hx).1⟩:zl9 w U g m l (.returned (.slice A' l'.length c')) wr))
   go_wp2_with fail;go_ret;exact HF.out _ rfl
