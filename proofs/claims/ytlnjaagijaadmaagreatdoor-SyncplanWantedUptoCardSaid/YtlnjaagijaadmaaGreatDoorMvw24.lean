/- A part. -/
import Derived.Test.YtlnjaagijaadmaaGreatDoorMvw23
import Derived.Test.YtlnjaagijaadmaaGreatDoorMvw22
set_option linter.unusedVariables false
set_option linter.unusedSimpArgs false
set_option maxHeartbeats 8000000
set_option maxRecDepth 100000
namespace Go.Proofs.YtlnjaagijaadmaaGreatDoor
open Go.Proofs.Tryz
open Go.RowKit
theorem zdt (q:Pat)(A:zP)(c b:Nat)(p:zA)(w:zW)(he:Env w)(hq:zbx w (zL A q.kp.length c) q)(hp:w.cell? ⟨b,0,none⟩=some (zS p))(hz:p.size<=1000000):
  Calls prog 57 #[.agg #[zL A q.kp.length c,.bool q.kr],.pointer (some ⟨b,0,none⟩)] w fun e w'=>e=.returned (.bool (zaj q p).isSome)/\zB w w':=by
 have hB:=z0l w [zL A q.kp.length c,.bool q.kr] 56;have hA:zB w (w.alloc (zC #[zL A q.kp.length c,.bool q.kr] 56)):=zR;have HM:=hd_ (fun X (hX:zB w X)=>zaw q p A c X (he.kw hX) hz (hq.kw hX).1 hq.small);have d2:(w.alloc (zC #[zL A q.kp.length c,.bool q.kr] 56)).cell? ⟨b,0,none⟩=some (zS p):=(hA.cell (block_lt_of_cell hp)).trans hp;clear he hq hp;go_enter func57,ntmps57;go_upto_region 1 with fail;generalize w.alloc (zC #[zL A q.kp.length c,.bool q.kr] 56)=W1 at hB hA d2 |-;have d0:W1.cell? ⟨w.heap.size,0,none⟩=some (.slice A q.kp.length c):=hB.cell 0;have d1:W1.cell? ⟨w.heap.size,1,none⟩=some (.bool q.kr):=hB.cell 1;have HC:=hd_ (HM W1 hA);have HA:=hd_ hA;clear hA hB HM;generalize zaj q p=o at HC |-;go_wp2_with fail;refine HC.mono ?_;rintro e w2 ⟨A',n,c',rfl,hb,-⟩;have HB:=hd_ (z0r HA hb);clear hb d0 d1 d2;go_wp2_with fail;go_ret;exact⟨rfl,HB⟩
def zdu (hs:List PatM)(p:zA):Bool:=hs.any fun q=>(zaj q.1 p).isSome
theorem zdv (hs:List PatM)(H:zP)(hc b:Nat)(p:zA)(w:zW)(he:Env w)(hh:HolesIn w (zL H hs.length hc) hs)(hp:w.cell? ⟨b,0,none⟩=some (zS p))(hz:p.size<=1000000)(hn:hs.length<=1000000):
  Calls prog 106 #[zL H hs.length hc,.func (.func 57) #[] #[.pointer (some ⟨b,0,none⟩)]] w fun e w'=>(∃ i:Int,e=.returned (zI i)/\decide (0<=i)=zdu hs p)/\zB w w':=by
 have HE:=hd_ he;have HH:=hd_ hh;have HP:=hd_ hp;have HNO:Hid (∀ k (hk:k<hs.length),(zaj hs[k].1 p).isSome=true->zdu hs p=true):=hd_ (fun k hk h=>List.any_eq_true.2 ⟨_,Za hk,h⟩);have HYE:Hid ((∀ k (hk:k<hs.length),(zaj hs[k].1 p).isSome=false)->zdu hs p=false):=hd_ (fun h=>by
  unfold zdu;rw[List.any_eq_false];intro q hq;obtain⟨k,hk,rfl⟩:=ZF hq;rw[h k hk];decide)
 generalize zdu hs p=r at HNO HYE |-;clear he hh hp;go_enter func106,ntmps106;go_wp2_with fail;go_loopw [8] (fun i wr=>∃ k:Nat,i=zI k/\k<=hs.length/\Hid (zB w wr/\∀ j (hj:j<hs.length),j<k->(zaj hs[j].1 p).isSome=false)) (fun i _=>hs.length - (intOf i).toNat)
 exact⟨0,rfl,Zg _,hd_ ⟨Zb _ _,fun j _ h=>by omega⟩⟩
 obtain⟨k,rfl,hk,HI⟩:=hrel;by_cases hlt:k<hs.length
 ·have HHX:=hd_ (HH.kw HI.1);obtain⟨ad,rfl,hab,s0,s1⟩:=HHX.out.at_ hlt;have HPK:=hd_ (HHX.2 hs[k] (Za hlt));have HNK:=hd_ (HNO k hlt);have HJ:Hid ((zaj hs[k].1 p).isSome=false->∀ j (hj:j<hs.length),j<k+1->(zaj hs[j].1 p).isSome=false):=hd_ (fun h j hj hjk=>by
   by_cases e:j=k
   ·subst e;exact h
   ·exact HI.2 j hj (by omega))
  generalize hs[k]=q at s0 s1 HPK HNK HJ;obtain⟨q,Aq,cq⟩:=q;change wr.cell? _=some (.slice Aq q.kp.length cq) at s0;change wr.cell? _=some (.bool q.kr) at s1;have HC:=hd_ (zdt q Aq cq b p wr (HE.kw HI.1) HPK ((HI.1.cell (block_lt_of_cell HP)).trans HP) hz);obtain⟨o,ho⟩:∃ o,(zaj q p).isSome=o:=⟨_,rfl⟩;rw[ho] at HC;have HO:=hd_ ho;have HLT:=hd_ hlt;clear hab ho;cases o with
  | true =>
   have HR:=hd_ (HNK HO);go_wp2_with fail;refine HC.mono ?_;rintro e w2 ⟨rfl,hb⟩;have HB:=hd_ (z0r HI.1 hb);clear hb s0 s1;go_wp2_with fail;go_ret;exact⟨⟨(k:Int),rfl,by rw[HR.out];exact decide_eq_true (by omega)⟩,HB⟩
  | false =>
   have HR:=hd_ (HJ HO);go_wp2_with fail;refine HC.mono ?_;rintro e w2 ⟨rfl,hb⟩;have HB:=hd_ (z0r HI.1 hb);clear hb s0 s1;go_wp2_with fail;go_roundw
   exact⟨k+1,by go_num,by omega,hd_ ⟨HB,HR⟩⟩
   simp [intOf];omega
 ·have hke:k=hs.length:=by omega
  subst hke;have HR:=hd_ (HYE (fun j hj=>HI.2 j hj hj));have HB:=hd_ HI.1;have hge:¬((hs.length:Int)<(hs.length:Int)):=by omega
  go_wp2_with fail;go_ret;exact⟨⟨-1,rfl,by rw[HR.out];decide⟩,HB⟩
theorem zdw (hs:List PatM)(H:zP)(hc b:Nat)(p:zA)(w:zW)(he:Env w)(hh:HolesIn w (zL H hs.length hc) hs)(hp:w.cell? ⟨b,0,none⟩=some (zS p))(hz:p.size<=1000000)(hn:hs.length<=1000000):
  Calls prog 56 #[zL H hs.length hc,.func (.func 57) #[] #[.pointer (some ⟨b,0,none⟩)]] w fun e w'=>e=.returned (.bool (zdu hs p))/\zB w w':=by
 have HC:=hd_ (zdv hs H hc b p w he hh hp hz hn);clear he hh hp;generalize zdu hs p=r at HC |-;go_enter func56,ntmps56;go_wp2_with fail;refine HC.mono ?_;rintro e w2 ⟨⟨i,rfl,hi⟩,hb⟩;have HI:=hd_ hi;have HB:=hd_ hb;clear hi hb;go_wp2_with fail;go_ret;exact⟨by rw[<- HI.out];rfl,HB⟩
def zdx (x:zdk)(p:zA):Option zA:=match zcv x.l.1 x.r.1 p with
 | none=>none
 | some s=>if zdu x.hs p then none else some s
def zdy (es:List zdk)(p:zA):Option zA:=es.findSome? (zdx · p)
def zdz (es:List zdk)(p:zA):Prop:=∀ x∈es,∀ caps,zaj x.l.1 p=some caps->zco x.r.1 caps
theorem ze0 {es:List zdk}{p:zA}{k:Nat}(hk:k<es.length)(h0:∀ j (hj:j<es.length),j<k->zdx es[j] p=none):zdy es p=(zdx es[k] p).or (zdy (es.drop (k+1)) p):=by
 induction es generalizing k with
 | nil=>simp at hk
 | cons x es ih =>
  unfold zdy;rw[List.findSome?_cons];cases k with
  | zero =>
   simp only[List.getElem_cons_zero,ZV,List.drop_succ_cons,List.drop_zero]
   cases zdx x p <;> rfl
  | succ k =>
   have hx:zdx x p=none:=h0 0 (by simp) (by omega)
   rw[hx];exact ih (by simpa using hk) fun j hj hjk=>h0 (j+1) (by simpa using hj) (by omega)
theorem ze1 {es:List zdk}{p:zA}(h0:∀ j (hj:j<es.length),zdx es[j] p=none):zdy es p=none:=by
 unfold zdy;rw[List.findSome?_eq_none_iff];intro x hx;obtain⟨k,hk,rfl⟩:=ZF hx;exact h0 k hk
theorem zgb (a b:Ty)(W:zW):(binOp .neq 73 (.agg #[zI a.base,.bool a.k,.bool a.l,.bool a.x]) (.agg #[zI b.base,.bool b.k,.bool b.l,.bool b.x])).run prog W=.ok (.bool (!decide (a=b))) W:=by
 obtain⟨a0,a1,a2,a3⟩:=a;obtain⟨b0,b1,b2,b3⟩:=b;rw[run_neq_struct,run_equalIn_agg W 9999 73 _ _ (by kernel_rfl) (by kernel_rfl)]
 simp [go_sem,Op.eqFields]
 by_cases h1:a0=b0 <;> by_cases h2:a1=b1 <;> by_cases h3:a2=b2 <;> by_cases h4:a3=b3 <;> simp [h1,h2,h3,h4]
theorem zgc (a b c d:Int)(W:zW):(binOp .neq 76 (.agg #[.int .u64 a,zI b]) (.agg #[.int .u64 c,zI d])).run prog W=.ok (.bool (!(decide (a=c) && decide (b=d)))) W:=by
 rw[run_neq_struct,run_equalIn_agg W 9999 76 _ _ (by kernel_rfl) (by kernel_rfl)]
 simp [go_sem,Op.eqFields]
 by_cases h1:a=c <;> by_cases h2:b=d <;> simp [h1,h2]
theorem zgd (f:zA->Option Rev)(x:Edt)(g:Nat)(dv dr ev rv:zV)(n:Int)(cl tx:zA)(bl be bn:Nat)(w:zW)(hk:Chk w g dv dr n cl tx ev rv bl be bn)(hL:z4x w bl f)
  (h1:0<=(z34 f x.kt).num) (h2:(z34 f x.kt).num<=1000000):
  Calls prog 66 #[.pointer (some ⟨g,0,none⟩),.agg #[zS x.kt,zI x.act,zI x.ty.base,.bool x.ty.k,.bool x.ty.l,.bool x.ty.x,.int .u64 x.sum,zI x.size,zI x.base,zS x.frm,zI x.fnum,zI x.fence]] w
   fun e w'=>e=.returned (.agg #[zS (z36 f n x).kt,zI (z36 f n x).num,zI (z36 f n x).chg,zI (z36 f n x).act,zI (z36 f n x).ty.base,.bool (z36 f n x).ty.k,.bool (z36 f n x).ty.l,.bool (z36 f n x).ty.x,.int .u64 (z36 f n x).sum,zI (z36 f n x).size,zS (z36 f n x).frm,zI (z36 f n x).fnum])/\zB w w':=by
 obtain⟨W,hW⟩:∃ W,W=(w.alloc (zC #[zS x.kt,zI x.act,zI x.ty.base,.bool x.ty.k,.bool x.ty.l,.bool x.ty.x,.int .u64 x.sum,zI x.size,zI x.base,zS x.frm,zI x.fnum,zI x.fence] 88)).alloc (zC #[zS ⟨#[]⟩,zI 0,zI 0,zI 0,zI 0,.bool false,.bool false,.bool false,.int .u64 0,zI 0,zS ⟨#[]⟩,zI 0] 78):=⟨_,rfl⟩;have hbW:zB w W:=by rw[hW];exact (zR).alloc (by simp) _
 have hX:Blk W w.heap.size 88 [zS x.kt,zI x.act,zI x.ty.base,.bool x.ty.k,.bool x.ty.l,.bool x.ty.x,.int .u64 x.sum,zI x.size,zI x.base,zS x.frm,zI x.fnum,zI x.fence]:=by rw[hW];exact (z0l w _ _).alloc _
 have hZ:Blk W (w.heap.size+1) 78 [zS ⟨#[]⟩,zI 0,zI 0,zI 0,zI 0,.bool false,.bool false,.bool false,.int .u64 0,zI 0,zS ⟨#[]⟩,zI 0]:=by
  rw[hW];have:=z0l (w.alloc (zC #[zS x.kt,zI x.act,zI x.ty.base,.bool x.ty.k,.bool x.ty.l,.bool x.ty.x,.int .u64 x.sum,zI x.size,zI x.base,zS x.frm,zI x.fnum,zI x.fence] 88)) [zS ⟨#[]⟩,zI 0,zI 0,zI 0,zI 0,.bool false,.bool false,.bool false,.int .u64 0,zI 0,zS ⟨#[]⟩,zI 0] 78;simpa using this
 have hK:Chk W g dv dr n cl tx ev rv bl be bn:=Blk.kw hk hbW (Blk.lt hk);have hlk:=z4x.look (w:=W.drew) (z2l.kw hL hbW.drew) x.kt;obtain⟨-,-,k2,-,-,k7,-,-⟩:=z40 hK;have HW:=hd_ hW;have HM:Hid (z36 f n x=⟨x.kt,(z34 f x.kt).num+1,n,x.act,x.ty,x.sum,x.size,x.frm,x.fnum⟩):=hd_ rfl;clear hW hK;generalize z34 f x.kt=r at hlk HM h1 h2;generalize z36 f n x=m at HM |-;obtain⟨c0,c1,c2,c3,c4,c5,c6,c7,c8,c9,c10,c11⟩:=z57 hX;go_enter func66,ntmps66;go_wp2_with fail;rw[<- HW.out];have hwr:IntKind.i64.wrap (r.num+1)=r.num+1:=IntWalk.i64_in _ (by omega)
 have hfl:∀ w,(Instr.field 78 (.agg #[zS r.kt,zI r.num,zI r.chg,zI r.act,zI r.ty.base,.bool r.ty.k,.bool r.ty.l,.bool r.ty.x,.int .u64 r.sum,zI r.size,zS r.frm,zI r.fnum]) 1).run prog w=.ok (zI r.num) w:=fun w=>by kernel_rfl
 go_still_tail 27,(by kernel_rfl)
 change wpList _ _ _ _ _ W.drew;clear hwr hfl hlk c0 c1 c2 c3 c4 c5 c6 c7 c8 c9 c10 c11 k2 k7;have hB2:zB w W.drew:=hbW.drew;have hZ2:Blk W.drew (w.heap.size+1) 78 [zS ⟨#[]⟩,zI 0,zI 0,zI 0,zI 0,.bool false,.bool false,.bool false,.int .u64 0,zI 0,zS ⟨#[]⟩,zI 0]:=hZ;generalize W.drew=W2 at hB2 hZ2 |-;obtain⟨z0,z1,z2,z3,z4,z5,z6,z7,z8,z9,z10,z11⟩:=z57 hZ2;obtain⟨y0,y1,y2,y3,y4,y5,y6,y7,y8,y9,y10,y11⟩:=zf0 hZ2;go_wp2_with fail;have hZ3:=zf1 hZ2 ⟨x.kt,r.num+1,n,x.act,x.ty,x.sum,x.size,x.frm,x.fnum⟩;have hB3:=zf2 hB2 (show w.heap.size<=w.heap.size+1 by omega) ⟨x.kt,r.num+1,n,x.act,x.ty,x.sum,x.size,x.frm,x.fnum⟩
 rw[<- HM.out] at hZ3 hB3;have e:((((((((((((W2.setCell ⟨w.heap.size+1,0,none⟩ (zS m.kt)).setCell ⟨w.heap.size+1,1,none⟩ (zI m.num)).setCell ⟨w.heap.size+1,2,none⟩ (zI m.chg)).setCell ⟨w.heap.size+1,3,none⟩ (zI m.act)).setCell ⟨w.heap.size+1,4,none⟩ (zI m.ty.base)).setCell ⟨w.heap.size+1,5,none⟩ (.bool m.ty.k)).setCell ⟨w.heap.size+1,6,none⟩ (.bool m.ty.l)).setCell ⟨w.heap.size+1,7,none⟩ (.bool m.ty.x)).setCell ⟨w.heap.size+1,8,none⟩ (.int .u64 m.sum)).setCell ⟨w.heap.size+1,9,none⟩ (zI m.size)).setCell ⟨w.heap.size+1,10,none⟩ (zS m.frm)).setCell ⟨w.heap.size+1,11,none⟩ (zI m.fnum))=((((((((((((W2.setCell ⟨w.heap.size+1,0,none⟩ (zS ((⟨x.kt,r.num+1,n,x.act,x.ty,x.sum,x.size,x.frm,x.fnum⟩:Rev)).kt)).setCell ⟨w.heap.size+1,1,none⟩ (zI ((⟨x.kt,r.num+1,n,x.act,x.ty,x.sum,x.size,x.frm,x.fnum⟩:Rev)).num)).setCell ⟨w.heap.size+1,2,none⟩ (zI ((⟨x.kt,r.num+1,n,x.act,x.ty,x.sum,x.size,x.frm,x.fnum⟩:Rev)).chg)).setCell ⟨w.heap.size+1,3,none⟩ (zI ((⟨x.kt,r.num+1,n,x.act,x.ty,x.sum,x.size,x.frm,x.fnum⟩:Rev)).act)).setCell ⟨w.heap.size+1,4,none⟩ (zI ((⟨x.kt,r.num+1,n,x.act,x.ty,x.sum,x.size,x.frm,x.fnum⟩:Rev)).ty.base)).setCell ⟨w.heap.size+1,5,none⟩ (.bool ((⟨x.kt,r.num+1,n,x.act,x.ty,x.sum,x.size,x.frm,x.fnum⟩:Rev)).ty.k)).setCell ⟨w.heap.size+1,6,none⟩ (.bool ((⟨x.kt,r.num+1,n,x.act,x.ty,x.sum,x.size,x.frm,x.fnum⟩:Rev)).ty.l)).setCell ⟨w.heap.size+1,7,none⟩ (.bool ((⟨x.kt,r.num+1,n,x.act,x.ty,x.sum,x.size,x.frm,x.fnum⟩:Rev)).ty.x)).setCell ⟨w.heap.size+1,8,none⟩ (.int .u64 ((⟨x.kt,r.num+1,n,x.act,x.ty,x.sum,x.size,x.frm,x.fnum⟩:Rev)).sum)).setCell ⟨w.heap.size+1,9,none⟩ (zI ((⟨x.kt,r.num+1,n,x.act,x.ty,x.sum,x.size,x.frm,x.fnum⟩:Rev)).size)).setCell ⟨w.heap.size+1,10,none⟩ (zS ((⟨x.kt,r.num+1,n,x.act,x.ty,x.sum,x.size,x.frm,x.fnum⟩:Rev)).frm)).setCell ⟨w.heap.size+1,11,none⟩ (zI ((⟨x.kt,r.num+1,n,x.act,x.ty,x.sum,x.size,x.frm,x.fnum⟩:Rev)).fnum)):=by rw[HM.out]
 dsimp only at e
 rw[<- e];generalize ((((((((((((W2.setCell ⟨w.heap.size+1,0,none⟩ (zS m.kt)).setCell ⟨w.heap.size+1,1,none⟩ (zI m.num)).setCell ⟨w.heap.size+1,2,none⟩ (zI m.chg)).setCell ⟨w.heap.size+1,3,none⟩ (zI m.act)).setCell ⟨w.heap.size+1,4,none⟩ (zI m.ty.base)).setCell ⟨w.heap.size+1,5,none⟩ (.bool m.ty.k)).setCell ⟨w.heap.size+1,6,none⟩ (.bool m.ty.l)).setCell ⟨w.heap.size+1,7,none⟩ (.bool m.ty.x)).setCell ⟨w.heap.size+1,8,none⟩ (.int .u64 m.sum)).setCell ⟨w.heap.size+1,9,none⟩ (zI m.size)).setCell ⟨w.heap.size+1,10,none⟩ (zS m.frm)).setCell ⟨w.heap.size+1,11,none⟩ (zI m.fnum))=W3 at hZ3 hB3 |-;obtain⟨e0,e1,e2,e3,e4,e5,e6,e7,e8,e9,e10,e11⟩:=z57 hZ3;refine bodyPost_ret (v:=.agg #[zS m.kt,zI m.num,zI m.chg,zI m.act,zI m.ty.base,.bool m.ty.k,.bool m.ty.l,.bool m.ty.x,.int .u64 m.sum,zI m.size,zS m.frm,zI m.fnum]) (by simp [results,results66,go_sem,e0,e1,e2,e3,e4,e5,e6,e7,e8,e9,e10,e11]) rfl ⟨rfl,hB3⟩
theorem ret_i {k:IntKind}{a b:Int}(h:a=b):Ending.returned (.int k a)=.returned (.int k b):=by rw[h]
theorem zgl (b:Int)(k l x:Bool)(w:zW):
  Calls prog 181 #[.agg #[zI b,.bool k,.bool l,.bool x]] w fun e w'=>e=.returned (zI (z2q 90 (z2p b k x)))/\zB w w':=by
 by_cases h0:1<=b/\b<=3
 ·have hb:b=1\/b=2\/b=3:=by omega
  rcases hb with rfl | rfl | rfl <;> cases k <;> cases x
  all_goals
   go_enter func181,ntmps181;go_wp2
   go_ret;exact⟨rfl,zR⟩
 ·have H:Hid (z2p b k x=false):=hd_ (by
   unfold z2p;have h1:(b == 1)=false:=by rw[beq_eq_false_iff_ne];omega
   have h2:(b == 2)=false:=by rw[beq_eq_false_iff_ne];omega
   have h3:(b == 3)=false:=by rw[beq_eq_false_iff_ne];omega
   simp [h1,h2,h3])
  by_cases hb:b<1
  ·clear h0;go_enter func181,ntmps181;go_wp2
   go_ret;exact⟨ret_i (by rw[H.out];rfl),zR⟩
  ·have hb3:3<b:=by omega
   clear h0;go_enter func181,ntmps181;go_wp2
   go_ret;exact⟨ret_i (by rw[H.out];rfl),zR⟩
variable {f : zA -> Option Rev} {b : zA} {x : Edt}
theorem weT18 (T:Code)(hT:Tryz.f130.body.bind (tailAt 18)=some T)(R:Ending->zW->Prop)(revs:List Rev)(c:Chg)(x:Edt)(Ar Ae Ac:zP)(dr:zV)(cr ce cc g3 g4 g7:Nat)(w4:zW)
  (hR:z3w w4 (zL Ar revs.length cr) revs) (hl:revs.length<=100000) (hbs:0<=x.base/\x.base<=1000000)
  (hD:Blk w4 g3 27 [zL Ar revs.length cr,dr]) (hC:Blk w4 g4 93 [zI c.num,zS c.client,zS c.text,zL Ae c.edits.length ce,zL Ac c.recs.length cc]) (hX:Blk w4 g7 88 [zS x.kt,zI x.act,zI x.ty.base,.bool x.ty.k,.bool x.ty.l,.bool x.ty.x,.int .u64 x.sum,zI x.size,zI x.base,zS x.frm,zI x.fnum,zI x.fence])
  (hRR:∀(n:Int) (w':zW),zB w4 w'->R (.returned (zI n)) w')
  (u0 u1 u2 u5 u6 u8 u9 gF gG gH gI gJ gK gL gM gN gO gP gQ gR gT gV gW gX gY gZ i6 i7 i8 ia ib ic ie ig ii ij ik il im io ip iq ir iu iv iw iy iz iA iB iC iD iE iF iG iH iI iJ iK iL iM iN iO iP iQ iR iS iT iU iV iW iX iY iZ j0 j1 j2 j9 jb jd je jf jg jh ji jj jk jl jm jn jo jp jq jr js jt ju bB bD bE bF bG bH bI bJ bK bL bM bN bO bP bQ bT bU bV bW bX bY bZ ca cj cn cx cy cz cA cB cD cF cG cH cI cJ cK cM cN cO cQ cS cZ da db dc dd de:zV):
  T.wp prog (bodyPost prog Tryz.f130 R) ⟨#[u0,u1,u2,.pointer (some ⟨g3,0,none⟩),.pointer (some ⟨g4,0,none⟩),u5,u6,.pointer (some ⟨g7,0,none⟩),u8,u9,gF,gG,gH,gI,gJ,gK,gL,gM,gN,gO,gP,gQ,gR,gT,gV,gW,gX,gY,gZ,i6,i7,i8,ia,ib,ic,ie,ig,ii,ij,ik,il,im,io,ip,iq,ir,iu,iv,iw,iy,iz,iA,iB,iC,iD,iE,iF,iG,iH,iI,iJ,iK,iL,iM,iN,iO,iP,iQ,iR,iS,iT,iU,iV,iW,iX,iY,iZ,j0,j1,j2,j9,jb,jd,je,jf,jg,jh,ji,jj,jk,jl,jm,jn,jo,jp,jq,jr,js,jt,ju,bB,bD,bE,bF,bG,bH,bI,bJ,bK,bL,bM,bN,bO,bP,bQ,bT,bU,bV,bW,bX,bY,bZ,ca,cj,cn,cx,cy,cz,cA,cB,cD,cF,cG,cH,cI,cJ,cK,cM,cN,cO,cQ,cS,cZ,da,db,dc,dd,de],[]⟩ w4:=by
 simp only[Tryz.f130,Zp,tailAt,hasReg] at hT
 simp at hT
 subst hT;have HRR:=hd_ hRR;have HR:=hd_ hR;have HBS:=hd_ hbs;have HX4:=hd_ hX;have HD4:=hd_ hD;have HC4:=hd_ hC;have HLAST:=hd_ (fun p X (hX:zB w4 X)=>zfl revs p (zL Ar revs.length cr) dr X (HR.kw hX) (by omega))
 clear hRR hR hbs hD hC hX;obtain⟨c0,c1,c2,c3,c4,c5,c6,c7,c8,c9,c10,c11⟩:=z57 HX4.out;have HCK:=hd_ (fun X=>zgl x.ty.base x.ty.k x.ty.l x.ty.x X);cases htk:z2p x.ty.base x.ty.k x.ty.x with
 | false =>
  rw[htk] at HCK;clear htk;go_wp2_with fail;refine (HCK _).mono ?_;rintro e w5 ⟨rfl,hb5⟩;have HB5:=hd_ hb5;clear hb5;go_wp2_with fail;exact HRR _ _ (HB5)
 | true =>
  rw[htk] at HCK;clear htk;go_wp2_with fail;refine (HCK _).mono ?_;rintro e w5 ⟨rfl,hb5⟩;have HW5:=hd_ hb5;have HX5:=hd_ (HX4.kw hb5 HX4.lt);have HD5:=hd_ (HD4.kw hb5 HD4.lt);have HC5:=hd_ (HC4.kw hb5 HC4.lt);clear hb5 c0 c1 c2 c3 c4 c5 c6 c7 c8 c9 c10 c11;obtain⟨c0,c1,c2,c3,c4,c5,c6,c7,c8,c9,c10,c11⟩:=z57 HX5.out;by_cases hz:x.size<0
  ·have q:decide (x.size<0)=true:=by simp;omega
   clear hz;go_wp2_with fail;exact HRR _ _ (HW5)
  ·have q:decide (x.size<0)=false:=by simp;omega
   clear hz;obtain⟨d0,d1,-,-⟩:=box2 HD5.out;have HL2:=hd_ (HLAST x.kt w5 HW5);go_wp2_with fail;refine HL2.mono ?_;rintro e w6 ⟨rfl,hb6⟩;generalize zf8 (zfc revs x.kt)=r;generalize (zfc revs x.kt).isSome=okb;have hY:=z0l w6 [zS r.kt,zI r.num,zI r.chg,zI r.act,zI r.ty.base,.bool r.ty.k,.bool r.ty.l,.bool r.ty.x,.int .u64 r.sum,zI r.size,zS r.frm,zI r.fnum] 78;have hA6:zB w5 (w6.alloc (zC #[zS r.kt,zI r.num,zI r.chg,zI r.act,zI r.ty.base,.bool r.ty.k,.bool r.ty.l,.bool r.ty.x,.int .u64 r.sum,zI r.size,zS r.frm,zI r.fnum] 78)):=z0t hb6 _;clear hb6 c0 c1 c2 c3 c4 c5 c6 c7 c8 c9 c10 c11 d0 d1;go_upto_region 21 with fail;generalize w6.alloc (zC #[zS r.kt,zI r.num,zI r.chg,zI r.act,zI r.ty.base,.bool r.ty.k,.bool r.ty.l,.bool r.ty.x,.int .u64 r.sum,zI r.size,zS r.frm,zI r.fnum] 78)=w7 at hY hA6 |-;generalize w6.heap.size=g14 at hY |-;have HX7:=hd_ (HX5.kw hA6 HX5.lt);have HC7:=hd_ (HC5.kw hA6 HC5.lt);have HY:=hd_ hY;have HW7:=hd_ (z0r HW5 hA6);clear hY hA6;obtain⟨c0,c1,c2,c3,c4,c5,c6,c7,c8,c9,c10,c11⟩:=z57 HX7.out;obtain⟨k0,k1,k2,k3,k4⟩:=zgf HC7.out;have HMD:=hd_ (zgh c.num c.client c.text Ae Ac c.edits.length c.recs.length ce cc x w7 HBS);go_wp2_with fail;refine HMD.mono ?_;rintro e w8 ⟨rfl,hb8⟩;have HB8:=hd_ hb8;clear hb8 c0 c1 c2 c3 c4 c5 c6 c7 c8 c9 c10 c11 k0 k1 k2 k3 k4;have HGO:=hd_ (zge (zgg c.num x) w8);go_wp2_with fail;refine HGO.mono ?_;rintro e w9 ⟨rfl,hb9⟩;have HB9:=hd_ (z0r HB8 hb9);clear hb9;obtain⟨c0,c1,c2,c3,c4,c5,c6,c7,c8,c9,c10,c11⟩:=z57 (HX7.out.kw HB9.out HX7.out.lt);obtain⟨b0,b1,b2,b3,b4,b5,b6,b7,b8,b9,b10,b11⟩:=z57 (HY.out.kw HB9.out HY.out.lt);have hact:(zgg c.num x).act=x.act:=rfl;rw[hact];clear hact;have hty:=zgb x.ty r.ty;have hcn:=zgc x.sum x.size 0 0;generalize (decide (x.sum=0) && decide (x.size=0))=bc at hcn
   generalize decide (x.ty=r.ty)=bt at hty;cases hlv:z32 x.act with
   | true =>
    clear hlv;go_wp2_with fail;exact HRR _ _ (z0r HW7 HB9)
   | false =>
    clear hlv;cases bt with
    | false =>
     go_wp2_with fail;exact HRR _ _ (z0r HW7 HB9)
    | true =>
     cases bc with
     | false =>
      go_wp2_with fail;exact HRR _ _ (z0r HW7 HB9)
     | true =>
      go_wp2_with fail;exact HRR _ _ (z0r HW7 HB9)
theorem zm4 (p:Pat)(n:Nat)(A:zP)(a:Nat)(w:zW):
  Calls prog 194 #[.agg #[zL A p.kp.length a,.bool p.kr],zI n] w fun e w'=>e=.returned (.bool (zhk p n))/\zB w w':=by
 have hB:=z0l w [zL A p.kp.length a,.bool p.kr] 56;have hA:zB w (w.alloc (zC #[zL A p.kp.length a,.bool p.kr] 56)):=zR;have HR:Hid (zhk p n=if p.kr then decide (p.kp.length<n) else decide (n=p.kp.length)):=hd_ rfl;go_enter func194,ntmps194;go_upto_region 1 with fail;generalize w.alloc (zC #[zL A p.kp.length a,.bool p.kr] 56)=W1 at hB hA |-;have d0:W1.cell? ⟨w.heap.size,0,none⟩=some (.slice A p.kp.length a):=hB.cell 0;have d1:W1.cell? ⟨w.heap.size,1,none⟩=some (.bool p.kr):=hB.cell 1;have HA:=hd_ hA;clear hB hA;obtain⟨b,hb⟩:∃ b,p.kr=b:=⟨_,rfl⟩;rw[hb] at d1 HR;clear hb;by_cases h1:n=p.kp.length
 all_goals
  have q1:((n:Int) == (p.kp.length:Int))=decide (n=p.kp.length):=by rw[ZY,beq_iff_eq,decide_eq_true_eq];omega
  have HH:=hd_ h1;first
   | rw[decide_eq_true h1] at q1 HR
   | rw[decide_eq_false h1] at q1 HR
  clear h1;cases b
 all_goals
  go_wp2_with fail
 all_goals
  go_ret;refine⟨congrArg (fun b=>Ending.returned (.bool b)) ?_,HA⟩;rw[HR.out];have h1:=HH.out;first
   | rfl
   | (simp;done)
   | (simp;omega)
theorem partAtW (p:Pat)(n:Nat)(A:zP)(a:Nat)(w:zW)(hp:z20 w (zL A p.kp.length a) p.kp):
  Calls prog 221 #[.agg #[zL A p.kp.length a,.bool p.kr],zI n] w fun e w'=>e=.returned (zS (zlv p n))/\zB w w':=by
 have hB:=z0l w [zL A p.kp.length a,.bool p.kr] 56;have hA:zB w (w.alloc (zC #[zL A p.kp.length a,.bool p.kr] 56)):=zR;have HS:=hd_ (hp.kw hA);clear hp;go_enter func221,ntmps221;go_upto_region 1 with fail;generalize w.alloc (zC #[zL A p.kp.length a,.bool p.kr] 56)=W1 at hB hA HS |-;have d0:W1.cell? ⟨w.heap.size,0,none⟩=some (.slice A p.kp.length a):=hB.cell 0;have HA:=hd_ hA;clear hB hA;by_cases h1:n<p.kp.length
 ·obtain⟨ad,rfl,hab,s0⟩:=z20.at_ HS.out h1;have HV:Hid (zlv p n=p.kp[n]):=hd_ (by unfold zlv;rw[Ze h1];rfl)
  generalize p.kp[n]=s at s0 HV;have hz:(n:Int)<(p.kp.length:Int):=by omega
  clear hab;go_wp2_with fail;go_ret;exact⟨by rw[HV.out];rfl,HA⟩
 ·have HV:Hid (zlv p n=⟨#[42]⟩):=hd_ (by unfold zlv;rw[List.getElem?_eq_none (by omega)];rfl)
  have hz:¬(n:Int)<(p.kp.length:Int):=by omega
  go_wp2_with fail;go_ret;exact⟨by rw[HV.out];rfl,HA⟩
open Go.Sort (grow)
theorem coversW (h b:Pat)(n:Nat)(A B:zP)(a c:Nat)(w:zW)(hh:zbx w (zL A h.kp.length a) h)(hb:zbx w (zL B b.kp.length c) b)(hl:h.kp.length<=12):
    Calls prog 195 #[.agg #[zL A h.kp.length a,.bool h.kr],.agg #[zL B b.kp.length c,.bool b.kr],zI 0,zI n] w fun e w'=>e=.returned (.bool (zlw b h n))/\zB w w':=by
  have hA:zB w ((w.alloc (zC #[zL A h.kp.length a,.bool h.kr] 56)).alloc (zC #[zL B b.kp.length c,.bool b.kr] 56)):=(zR).alloc (by simp) _
  have h2:zch ((w.alloc (zC #[zL A h.kp.length a,.bool h.kr] 56)).alloc (zC #[zL B b.kp.length c,.bool b.kr] 56)) w.heap.size (zL A h.kp.length a) h.kr:=(z0l w [zL A h.kp.length a,.bool h.kr] 56).alloc _;have h3:zch ((w.alloc (zC #[zL A h.kp.length a,.bool h.kr] 56)).alloc (zC #[zL B b.kp.length c,.bool b.kr] 56)) (w.heap.size+1) (zL B b.kp.length c) b.kr:=by
    have:=z0l (w.alloc (zC #[zL A h.kp.length a,.bool h.kr] 56)) [zL B b.kp.length c,.bool b.kr] 56;rw[Zl] at this;exact this
  have HP:=hd_ hh;have HQ:=hd_ hb;clear hh hb;have HPZ:Hid (∀ k,(zlv b k).size<=30000000):=hd_ (fun k=>by
    unfold zlv;cases hk:b.kp[k]? with
    | none=>decide
    | some s=>exact HQ.2 s (List.mem_of_getElem? hk))
  go_enter func195,ntmps195;go_upto_region 1 with fail;generalize (w.alloc (zC #[zL A h.kp.length a,.bool h.kr] 56)).alloc (zC #[zL B b.kp.length c,.bool b.kr] 56)=W1 at hA h2 h3 |-;have H:=hd_ (Zi hA (Zi h2 h3));clear hA h2 h3;go_wp2_with fail;go_loopw [9] (fun i wr=>∃ k:Nat,i=zI k/\k<=h.kp.length/\Hid (zB W1 wr/\∀ i (hi:i<h.kp.length),i<k->zbl (zlv b i) h.kp[i]=true)) (fun i _=>h.kp.length - (intOf i).toNat)
  exact⟨0,rfl,Zg _,hd_ ⟨Zb _ _,fun i _ h0=>absurd h0 (Nat.not_lt_zero _)⟩⟩
  obtain⟨k,rfl,hk,HI⟩:=hrel;have HB:=hd_ (z0r H.1 HI.1);have x0:=(H.out.2.1.low HI.out.1).c0;by_cases h1:k<n
  · have q1:decide ((k:Int)<(n:Int))=true:=decide_eq_true (by omega)
    by_cases hlt:k<h.kp.length
    · have q2:decide ((k:Int)<(h.kp.length:Int))=true:=decide_eq_true (by omega)
      obtain⟨ad,rfl,hab,s0⟩:=z20.at_ (HP.out.kw HB.out).1 hlt;have y0:=(H.out.2.2.low HI.out.1).c0;have y1:=(H.out.2.2.low HI.out.1).c1;have e0:=cell_regrown x0;have e1:=cell_regrown y0;have e2:=cell_regrown y1;have e3:=cell_regrown s0;have hsz:=HP.out.2 h.kp[k] (Za _);have HNX:=hd_ (fun(hw:zbl (zlv b k) h.kp[k]=true)=>(fun i hi h0=>if e:i=k then by subst e;exact hw else HI.2 i hi (by omega):∀ i (hi:i<h.kp.length),i<k+1->zbl (zlv b i) h.kp[i]=true))
      have hno:zbl (zlv b k) h.kp[k]=false->zlw b h n=false:=fun hw=>by
        cases hc:zlw b h n with
        | false=>rfl
        | true =>
          have:=zlz.1 hc k hlt h1;rw[hw] at this;cases this
      have HNO:=hd_ hno;clear hno;generalize h.kp[k]=s at s0 e3 hsz HNX HNO;have cP:∀ d os,Calls prog 221 #[.agg #[zL B b.kp.length c,.bool b.kr],zI k] (grow (redrawn wr d) os) fun e w''=>e=.returned (zS (zlv b k))/\∃ p:Regrown,w''=grow (redrawn wr p.d) p.os:=fun d os=>Calls.regrown_of (partAtW b k B c _ ((HQ.kw HB).kw (below_regrown _ d os)).1);have hpz:=HPZ.out k;generalize zlv b k=t at cP hpz HNX HNO;have cW:∀ d os,Calls prog 192 #[zS t,zS s] (grow (redrawn wr d) os) fun e w''=>e=.returned (.bool (zbl t s))/\∃ p:Regrown,w''=grow (redrawn wr p.d) p.os:=fun d os=>Calls.regrown_of (zbn t s _ hpz hsz);generalize zbl t s=ok at cW HNX HNO;have hz:(k:Int)<(h.kp.length:Int):=by omega
      have HLT:=hd_ hlt;clear hab hpz hsz;cases ok
      all_goals
        go_wp2_with fail;refine wp_region_quiet_below (by kernel_rfl) (by kernel_rfl) ?_
        repeat (first | go_big_quiet_step (with_reducible exact cP _ _) | quiet_step (with_reducible exact cP _ _) | go_big_quiet_step (with_reducible exact cW _ _) | quiet_step (with_reducible exact cW _ _))
        refine wpQuiet_nil ?_;intro _ hw9;obtain⟨⟨dq,osq⟩,hw9⟩:=hw9;subst hw9;have HB4:=hd_ (HI.1.trans ((below_regrown wr dq osq).mono HI.1.size));generalize grow (redrawn wr dq) osq=W5 at HB4 |-;clear x0 y0 y1 s0 e0 e1 e2 e3 cP cW q1 q2;go_wp2_with fail;first
          | (go_roundw
             exact⟨k+1,by go_num,by omega,hd_ ⟨HB4,HNX (by first | rfl | trivial)⟩⟩
             simp [intOf];omega)
          | (go_ret
             exact⟨by rw[HNO.out (by first | rfl | trivial)];rfl,z0r H.1 HB4⟩)
    · have q2:decide ((k:Int)<(h.kp.length:Int))=false:=decide_eq_false (by omega)
      have HY:Hid (zlw b h n=true):=hd_ (zlz.2 fun i hi _=>HI.2 i hi (by omega))
      go_wp2_with fail;go_ret;exact⟨by rw[HY.out];rfl,HB⟩
  · have q1:decide ((k:Int)<(n:Int))=false:=decide_eq_false (by omega)
    have HY:Hid (zlw b h n=true):=hd_ (zlz.2 fun i hi h0=>HI.2 i hi (by omega))
    go_wp2_with fail;go_ret;exact⟨by rw[HY.out];rfl,HB⟩
theorem zm5 (h b:Pat)(n:Nat)(A B:zP)(a c gn gb:Nat)(w:zW)(hh:zbx w (zL A h.kp.length a) h)(hb:zbx w (zL B b.kp.length c) b)(hl:h.kp.length<=12)(hn:w.cell? ⟨gn,0,none⟩=some (zI n))(hgn:gn<w.heap.size)(hg:zch w gb (zL B b.kp.length c) b.kr):
  Calls prog 193 #[.agg #[zL A h.kp.length a,.bool h.kr],.pointer (some ⟨gn,0,none⟩),.pointer (some ⟨gb,0,none⟩)] w fun e w'=>e=.returned (.bool (zhk h n && zlw b h n))/\zB w w':=by
 have hB:=z0l w [zL A h.kp.length a,.bool h.kr] 56;have hA:zB w (w.alloc (zC #[zL A h.kp.length a,.bool h.kr] 56)):=zR;have HRE:=hd_ (fun X=>zm4 h n A a X);have HCO:=hd_ (fun X (hX:zB w X)=>coversW h b n A B a c X (hh.kw hX) (hb.kw hX) hl);have HN:=hd_ (fun X (hX:zB w X)=>(hX.cell (p:=⟨gn,0,none⟩) hgn).trans hn);have HG:=hd_ hg;clear hh hb hn hg;obtain⟨r,hr⟩:∃ r,zhk h n=r:=⟨_,rfl⟩;obtain⟨cv,hcv⟩:∃ cv,zlw b h n=cv:=⟨_,rfl⟩;rw[hr] at HRE;rw[hcv] at HCO;rw[hr,hcv];clear hr hcv;go_enter func193,ntmps193;go_upto_region 1 with fail;generalize w.alloc (zC #[zL A h.kp.length a,.bool h.kr] 56)=W1 at hB hA |-;have d0:W1.cell? ⟨w.heap.size,0,none⟩=some (.slice A h.kp.length a):=hB.cell 0;have d1:W1.cell? ⟨w.heap.size,1,none⟩=some (.bool h.kr):=hB.cell 1;have n0:=HN.out W1 hA;have HA:=hd_ hA;have HB:=hd_ hB;clear hB hA;go_wp2_with fail;refine (HRE _).mono ?_;rintro e w2 ⟨rfl,hb2⟩;have HB2:=hd_ (z0r HA hb2);have hB2:=HB.out.kw hb2 HB.out.lt;have d0:w2.cell? ⟨w.heap.size,0,none⟩=some (.slice A h.kp.length a):=hB2.cell 0;have d1:w2.cell? ⟨w.heap.size,1,none⟩=some (.bool h.kr):=hB2.cell 1;have n0:=HN.out w2 HB2.out;have g0:=(HG.out.low HB2.out).c0;have g1:=(HG.out.low HB2.out).c1;have HC:=hd_ (HCO w2 HB2);clear hb2 hB2;cases r with
 | false =>
  go_wp2_with fail;go_ret;exact⟨rfl,HB2⟩
 | true =>
  go_wp2_with fail;refine HC.mono ?_;rintro e w3 ⟨rfl,hb3⟩;have HB3:=hd_ (z0r HB2 hb3);clear hb3;go_wp2_with fail;go_ret;exact⟨rfl,HB3⟩
structure SmSt (w W wr:zW)(A:zP)(n a g4 g12:Nat)(b:Bool)(hv:zV):Prop where
 low:zB W wr
 res:Blk wr g4 66 [zL none 0 0,.bool false,zL none 0 0]
 box:Blk wr g12 66 [zL A n a,.bool b,hv]
theorem SmSt.ku {w W wr wx:zW}{A:zP}{n a g4 g12:Nat}{b:Bool}{hv:zV}(h:SmSt w W wr A n a g4 g12 b hv)(hb:zB wr wx):SmSt w W wx A n a g4 g12 b hv:=
 ⟨z0r h.low hb,h.res.kw hb h.res.lt,h.box.kw hb h.box.lt⟩
section
variable {u0 u1 u2 u3 u4 u5 u6 u7 u8 u9 gF gG gH gI gJ gK gL gM gN gO gP gQ gR gT gV gW gX gY gZ i6 : zV}
theorem zp9 {P:Program}{w:zW}{t e:TypeId}{size n c hi:Nat}{A:zP}{xs:List zV}(ht:P.underlying t=some (.slice e))(hs:∀ w,(sizeOf e).run P w=.ok size w)
  (h:Row w size (zL A n c) n xs) (h2:hi<=n):
  ∃ A' c',(∀ X,(Instr.sliceAt t (zL A n c) none (some (zI hi)) none).run P X=.ok (zL A' hi c') X)/\∀ W:zW,Row W size (zL A n c) n xs->Row W size (zL A' hi c') hi (xs.take (hi * size)):=by
 have hc:n<=c:=by obtain⟨A',c',e,hc,_⟩:=id h;injection e with e1 e2 e3;omega
 have he:P.elem t=e:=by simp [Program.elem,ht]
 have ht':P.underlying t=some (.slice (P.elem t)):=by rw[he];exact ht
 have hr:∀ W:zW,Row W size (zL A n c) n xs->Row W size (zL (if c=0 then A else A.map (·.add 0)) hi c) hi (xs.take (hi * size)):=fun W hW=>by
  have hr:=Row.slice hW (Zg hi) h2;simp only[Nat.zero_mul,List.drop_zero,Nat.sub_zero] at hr
  exact hr
 refine⟨_,_,fun X=>?_,hr⟩
 ·rw[run_sliceAt_slice X t _ _ _ _ ht',run_slice_h X t A n c ht' _ _ (by omega) (by omega),he,hs]
  simp [Result.andThen,sliced]
theorem zpa {P:Program}{w:zW}{t e:TypeId}{size n c lo:Nat}{A:zP}{xs:List zV}(ht:P.underlying t=some (.slice e))(hs:∀ w,(sizeOf e).run P w=.ok size w)
  (h:Row w size (zL A n c) n xs) (h1:lo<=n):
  ∃ A' c',(∀ X,(Instr.sliceAt t (zL A n c) (some (zI lo)) none none).run P X=.ok (zL A' (n - lo) c') X)/\∀ W:zW,Row W size (zL A n c) n xs->Row W size (zL A' (n - lo) c') (n - lo) (xs.drop (lo * size)):=by
 have he:P.elem t=e:=by simp [Program.elem,ht]
 have ht':P.underlying t=some (.slice (P.elem t)):=by rw[he];exact ht
 have hr:∀ W:zW,Row W size (zL A n c) n xs->Row W size (zL (if c=lo then A else A.map (·.add (lo * size))) (n - lo) (c - lo)) (n - lo) (xs.drop (lo * size)):=fun W hW=>by
  have hr:=Row.slice hW h1 (Zd _);rw[ZQ (by rw[Zu,h.len,<- Nat.sub_mul];exact Zd _)] at hr
  exact hr
 refine⟨_,_,fun X=>?_,hr⟩
 ·rw[run_sliceAt_slice X t _ _ _ _ ht',run_slice_l X t A n c ht' _ _ (by omega) (by omega),he,hs]
  simp [Result.andThen,sliced]
theorem zpb (l:List Hav):∀ v∈l.flatMap Hav.cells,v.oneCell'=true:=by
 intro v hv;obtain⟨x,-,hx⟩:=List.mem_flatMap.1 hv;exact z6h x v hx
theorem zpc (l:List Hav)(i:Nat):(l.flatMap Hav.cells).take (i * 3)=(l.take i).flatMap Hav.cells:=by
 induction l generalizing i with
 | nil=>simp
 | cons x l ih =>
  cases i with
  | zero=>simp
  | succ i =>
   have e:(i+1) * 3=3+i * 3:=by omega
   rw[List.take_succ_cons,ZG,ZG,<- ih,e];exact List.take_length_add_append (l₁:=x.cells) (i * 3)
theorem zpd (l:List Hav)(i:Nat):(l.flatMap Hav.cells).drop (i * 3)=(l.drop i).flatMap Hav.cells:=by
 induction l generalizing i with
 | nil=>simp
 | cons x l ih =>
  cases i with
  | zero=>simp
  | succ i =>
   have e:(i+1) * 3=3+i * 3:=by omega
   rw[List.drop_succ_cons,ZG,<- ih,e];exact List.drop_length_add_append (l₁:=x.cells) (i * 3)
theorem below_nogrow2 {w w':zW}{v:zV}(hG:w.grownBy w' v.ownBlock)(hv:v.ownBlock=none):zB w w':=⟨hG.os,hG.tape,hG.output,hG.size,fun k hk=>hG.block k hk (by rw[hv];simp)⟩
theorem puR2 (ops:Array Oper)(hops:Tryz.f31.body.bind (z0w 2)=some ops)(Q:Exit->Act->zW->Prop)(V:zW)(A:zP)(c g3 i:Nat)(l:List Hav)(h:Hav)
  (hH:z5s V (zL A l.length c) l) (hB:Blk V g3 84 [zS h.kt,zI h.num,zS h.loc]) (hi:i<=l.length) (hl:l.length<=1000000)
  (hQ:∀(en eo et eu ew eA eB:zV) (A':zP) (c':Nat) (w':zW),Hid (zB V w'/\w'.ownsRow V.heap.size 84 3 (zL A' (i+1) c') (i+1) ((l.take i++[h]).flatMap Hav.cells))->Q .normal ⟨#[zL A l.length c,u1,u2,.pointer (some ⟨g3,0,none⟩),u4,zI i,u6,zL A' (i+1) c',u8,u9,gF,gG,gH,gI,gJ,en,eo,et,eu,ew,eA,eB,gR,gT,gV,gW,gX,gY,gZ,i6],[]⟩ w'):
  (Code.region 2 ops true).wp prog Q ⟨#[zL A l.length c,u1,u2,.pointer (some ⟨g3,0,none⟩),u4,zI i,u6,u7,u8,u9,gF,gG,gH,gI,gJ,gK,gL,gM,gN,gO,gP,gQ,gR,gT,gV,gW,gX,gY,gZ,i6],[]⟩ V:=by
 simp only[Tryz.f31,Zp,z0w] at hops
 simp at hops
 subst hops;obtain⟨Ai,ci,hsl,hrw⟩:=zp9 (P:=prog) (w:=V) underlying28 ziy hH hi;have HQ:=hd_ hQ;have HROW:Hid (∀ W,zB V W->Row W 3 (zL Ai i ci) i ((l.take i).flatMap Hav.cells)):=hd_ fun W hW=>by rw[<- zpc];exact hrw W (z5s.ku hH hW)
 have HONE:Hid (∀ v∈(l.take i).flatMap Hav.cells,v.oneCell'=true):=hd_ (zpb _);have HF:Hid (∀ w',zB V w'->w'.cell? ⟨g3,0,none⟩=some (zS h.kt)/\w'.cell? ⟨g3,1,none⟩=some (zI h.num)/\w'.cell? ⟨g3,2,none⟩=some (zS h.loc)):=hd_ fun w' hb=>z5h (hB.kw hb hB.lt);have HCAT:Hid ((l.take i).flatMap Hav.cells++[zS h.kt,zI h.num,zS h.loc]=(l.take i++[h]).flatMap Hav.cells):=hd_ (by rw[ZI];rfl)
 clear hQ hH hB hrw;obtain⟨f0,f1,f2⟩:=HF.out V (Zb _ _);refine wp_region_noPanic ?_;go_region_law (first
   | (refine step_app (base:=V.heap.size) (n:=0) (xs:=[]) rfl rfl z6g (Zv _ _ _ _) (by simp [Act.eval,Act.put];done) (HROW _ (Zb _ _).drew) (by simp [Act.eval,Act.put];done) HONE (by omega) (by unfold maxLen;omega) (by simp) ?_;intro A5 c5 w5 hO5 hG5 hw5;have hX5:=below_nogrow2 hG5 rfl;have hS5:zB V w5:=(Zb _ _).drew.trans hX5;obtain⟨f5,f6,f7⟩:=HF.out w5 hS5;rw[ZV,Yc] at hO5)
   | (refine step_app (base:=V.heap.size) (n:=0) (xs:=[]) rfl rfl z6g (Zv _ _ _ _) (by simp [Act.eval,Act.put];done) (HROW _ (by first | exact z0t (Zb _ _).drew _ | exact (z0t (Zb _ _) _).drew)) (by simp [Act.eval,Act.put];done) HONE (by omega) (by unfold maxLen;omega) (Below.size (by first | exact z0t (Zb _ _).drew _ | exact (z0t (Zb _ _) _).drew)) ?_;intro A5 c5 w5 hO5 hG5 hw5;have hX5:=below_nogrow2 hG5 rfl;have hS5:zB V w5:=z0r (by first | exact z0t (Zb _ _).drew _ | exact (z0t (Zb _ _) _).drew) hX5;have hQ5:Blk w5 V.heap.size 84 [zS h.kt,zI h.num,zS h.loc]:=Blk.below' (by first | exact z0l V.drew _ _ | exact Blk.drew' (z0l V _ _)) hX5;rw[ZV,Yc] at hO5)
   | (refine step_app rfl rfl z6g (z0n hO5 (zR)) (by simp [Act.eval,Act.put];done) (z0i w5 [zS h.kt,zI h.num,zS h.loc] _ 3 1 rfl (by decide) _ rfl) (by simp [Act.eval,Act.put];done) (by simp [Value.oneCell']) (by omega) (by unfold maxLen;omega) (by have:=hS5.size;simp;omega) ?_;intro A6 c6 w6 hO6 hG6 hw6;have hS6:zB V w6:=(hS5.alloc hS5.size _).grown hG6 (hS5.alloc hS5.size _).size (fun k e=>(hO5.lt k e).1))
   | (refine step_app rfl rfl z6g hO5 (by simp [Act.eval,Act.put];done) (hQ5.row (size:=3) (n:=1) rfl (by decide)) (by simp [Act.eval,Act.put];done) (by simp [Value.oneCell']) (by omega) (by unfold maxLen;omega) hS5.size ?_;intro A6 c6 w6 hO6 hG6 hw6;have hS6:zB V w6:=hS5.grown hG6 hS5.size (fun k e=>(hO5.lt k e).1)))
 all_goals exact NoPanic.normal (HQ _ _ _ _ _ _ _ _ _ _ (hd_ ⟨hS6,by rw[<- HCAT.out];exact hO6⟩))
end
theorem zql {x:zA}(h:z8t x≠0):zay x=true:=by
 unfold zay zax;unfold z8t at h;cases hc:z0z x with
 | true=>simp
 | false =>
  rw[hc] at h;cases hs:z8r x with
  | false=>rw[hs] at h;exact absurd rfl h
  | true =>
   rw[hs] at h;cases ht:z8s x with
   | false=>rw[ht] at h;exact absurd rfl h
   | true=>rfl
section
variable {u0 u1 u2 u3 u4 u5 u6 u7 u8 u9 gF gG gH gI gJ gK gL gM gN gO gP gQ gR gT gV gW gX gY gZ i6 i7 i8 ia ib ic ie ig ii ij ik il im io ip iq ir iu iv iw iy iz iA iB iC iD iE iF iG iH iI iJ iK iL iM iN iO iP iQ iR iS iT iU iV iW iX iY iZ j0 j1 j2 j9 jb jd je jf jg jh ji jj jk jl jm jn jo jp jq jr js jt ju bB bD bE bF bG bH bI bJ bK bL bM bN bO bP bQ bT bU bV bW bX bY bZ ca cj cn cx cy cz cA cB cD cF cG cH cI cJ cK cM cN cO cQ cS cZ da db dc dd de df dg dh di dj dm du dw dx dy dz dA dB dC dD dE dF dG dH dI dJ dK dL dM dN dO dP dQ dR dS dT dU dV dW dX dY dZ eb ec ed ef eh : zV}
theorem zrm {V W:zW}{g:Nat}(h:V.grownBy W (some g))(i:Nat)(u:zV):V.grownBy (W.setCell ⟨g,i,none⟩ u) (some g):=by
 have h2:=z4a W g i u;exact⟨h2.os.trans h.os,h2.tape.trans h.tape,h2.output.trans h.output,Zf h.size h2.size,fun k hk hne=>(h2.block k (Zq hk h.size) hne).trans (h.block k hk hne)⟩
theorem zrn {V W:zW}{row:Option Nat}(h:V.grownBy W row):V.grownBy W.drew row:=⟨h.os,h.tape,h.output,h.size,h.block⟩
theorem zro (V:zW)(row:Option Nat):V.grownBy V row:=⟨rfl,rfl,rfl,Zd _,fun _ _ _=>rfl⟩
theorem chR20 (ops:Array Oper)(hops:Tryz.f36.body.bind (z0w 20)=some ops)(Q:Exit->Act->zW->Prop)(V:zW)(g18 g20:Nat)(v:Rev)(x:Edt)(h18:Blk V g18 78 [zS v.kt,zI v.num,zI v.chg,zI v.act,zI v.ty.base,.bool v.ty.k,.bool v.ty.l,.bool v.ty.x,.int .u64 v.sum,zI v.size,zS v.frm,zI v.fnum])(h20:Blk V g20 88 [zS x.kt,zI x.act,zI x.ty.base,.bool x.ty.k,.bool x.ty.l,.bool x.ty.x,.int .u64 x.sum,zI x.size,zI x.base,zS x.frm,zI x.fnum,zI x.fence])(hne:g20≠g18)
  (hQ:∀(aB aC aD aE:zV) (w':zW),Blk w' g20 88 [zS x.kt,zI 5,zI v.ty.base,.bool v.ty.k,.bool v.ty.l,.bool v.ty.x,.int .u64 x.sum,zI x.size,zI x.base,zS x.frm,zI x.fnum,zI x.fence]->V.grownBy w' (some g20)->Q .normal ⟨#[u0,u1,u2,u3,u4,u5,u6,u7,u8,u9,gF,gG,gH,gI,gJ,gK,gL,gM,.pointer (some ⟨g18,0,none⟩),gO,.pointer (some ⟨g20,0,none⟩),gQ,gR,gT,gV,gW,gX,gY,gZ,i6,i7,i8,ia,ib,ic,ie,ig,ii,ij,ik,il,im,io,ip,iq,ir,iu,iv,iw,iy,iz,iA,iB,iC,iD,iE,iF,iG,iH,iI,iJ,iK,iL,iM,iN,iO,iP,iQ,iR,iS,iT,iU,iV,iW,iX,iY,iZ,j0,j1,j2,j9,jb,jd,je,jf,jg,jh,ji,jj,jk,jl,jm,jn,jo,jp,jq,jr,js,jt,ju,bB,bD,bE,bF,bG,bH,bI,bJ,bK,bL,bM,bN,bO,bP,bQ,bT,bU,bV,bW,bX,aB,aC,aD,aE,cn,cx,cy,cz,cA,cB,cD,cF,cG,cH,cI,cJ,cK,cM,cN,cO,cQ,cS,cZ,da,db,dc,dd,de,df,dg,dh,di,dj,dm,du,dw,dx,dy,dz,dA,dB,dC,dD,dE,dF,dG,dH,dI,dJ,dK,dL,dM,dN,dO,dP,dQ,dR,dS,dT,dU,dV,dW,dX,dY,dZ,eb,ec,ed,ef,eh],[]⟩ w'):
  (Code.region 20 ops true).wp prog Q ⟨#[u0,u1,u2,u3,u4,u5,u6,u7,u8,u9,gF,gG,gH,gI,gJ,gK,gL,gM,.pointer (some ⟨g18,0,none⟩),gO,.pointer (some ⟨g20,0,none⟩),gQ,gR,gT,gV,gW,gX,gY,gZ,i6,i7,i8,ia,ib,ic,ie,ig,ii,ij,ik,il,im,io,ip,iq,ir,iu,iv,iw,iy,iz,iA,iB,iC,iD,iE,iF,iG,iH,iI,iJ,iK,iL,iM,iN,iO,iP,iQ,iR,iS,iT,iU,iV,iW,iX,iY,iZ,j0,j1,j2,j9,jb,jd,je,jf,jg,jh,ji,jj,jk,jl,jm,jn,jo,jp,jq,jr,js,jt,ju,bB,bD,bE,bF,bG,bH,bI,bJ,bK,bL,bM,bN,bO,bP,bQ,bT,bU,bV,bW,bX,bY,bZ,ca,cj,cn,cx,cy,cz,cA,cB,cD,cF,cG,cH,cI,cJ,cK,cM,cN,cO,cQ,cS,cZ,da,db,dc,dd,de,df,dg,dh,di,dj,dm,du,dw,dx,dy,dz,dA,dB,dC,dD,dE,dF,dG,dH,dI,dJ,dK,dL,dM,dN,dO,dP,dQ,dR,dS,dT,dU,dV,dW,dX,dY,dZ,eb,ec,ed,ef,eh],[]⟩ V:=by
 simp only[Tryz.f36,Zp,z0w] at hops
 simp at hops
 subst hops;have HQ:=hd_ hQ;have H20:=hd_ h20;obtain⟨r0,r1,r2,r3,r4,r5,r6,r7,r8,r9,r10,r11⟩:=z57 h18;obtain⟨x0,x1,x2,x3,x4,x5,x6,x7,x8,x9,x10,x11⟩:=z57 h20;obtain⟨f0,f1,f2,f3,f4,f5,f6,f7,f8,f9,f10,f11⟩:=zf0 h20;have hne2:¬(g18=g20):=fun e=>hne e.symm;clear hQ h18 h20;refine wp_region_noPanic ?_;go_region_law (fail)
 all_goals refine NoPanic.normal ?_
 all_goals exact HQ _ _ _ _ _ (Blk.drew' ((((((H20).set_ 1 (zI 5)).set_ 2 (zI v.ty.base)).set_ 3 (.bool v.ty.k)).set_ 4 (.bool v.ty.l)).set_ 5 (.bool v.ty.x))) (zrn (zrm (zrm (zrm (zrm (zrm (zro _ _) 1 (zI 5)) 2 (zI v.ty.base)) 3 (.bool v.ty.k)) 4 (.bool v.ty.l)) 5 (.bool v.ty.x)))
theorem chR30 (ops:Array Oper)(hops:Tryz.f36.body.bind (z0w 30)=some ops)(Q:Exit->Act->zW->Prop)(V:zW)(g18 g20:Nat)(v:Rev)(x:Edt)(h18:Blk V g18 78 [zS v.kt,zI v.num,zI v.chg,zI v.act,zI v.ty.base,.bool v.ty.k,.bool v.ty.l,.bool v.ty.x,.int .u64 v.sum,zI v.size,zS v.frm,zI v.fnum])(h20:Blk V g20 88 [zS x.kt,zI x.act,zI x.ty.base,.bool x.ty.k,.bool x.ty.l,.bool x.ty.x,.int .u64 x.sum,zI x.size,zI x.base,zS x.frm,zI x.fnum,zI x.fence])(hne:g20≠g18)
  (hQ:∀(bq bw bz bA:zV) (w':zW),Blk w' g20 88 [zS x.kt,zI 3,zI v.ty.base,.bool v.ty.k,.bool v.ty.l,.bool v.ty.x,.int .u64 x.sum,zI x.size,zI x.base,zS x.frm,zI x.fnum,zI x.fence]->V.grownBy w' (some g20)->Q .normal ⟨#[u0,u1,u2,u3,u4,u5,u6,u7,u8,u9,gF,gG,gH,gI,gJ,gK,gL,gM,.pointer (some ⟨g18,0,none⟩),gO,.pointer (some ⟨g20,0,none⟩),gQ,gR,gT,gV,gW,gX,gY,gZ,i6,i7,i8,ia,ib,ic,ie,ig,ii,ij,ik,il,im,io,ip,iq,ir,iu,iv,iw,iy,iz,iA,iB,iC,iD,iE,iF,iG,iH,iI,iJ,iK,iL,iM,iN,iO,iP,iQ,iR,iS,iT,iU,iV,iW,iX,iY,iZ,j0,j1,j2,j9,jb,jd,je,jf,jg,jh,ji,jj,jk,jl,jm,jn,jo,jp,jq,jr,js,jt,ju,bB,bD,bE,bF,bG,bH,bI,bJ,bK,bL,bM,bN,bO,bP,bQ,bT,bU,bV,bW,bX,bY,bZ,ca,cj,cn,cx,cy,cz,cA,cB,cD,cF,cG,cH,cI,cJ,cK,cM,cN,cO,cQ,cS,cZ,da,db,dc,dd,de,df,dg,dh,di,dj,dm,du,dw,dx,dy,dz,dA,dB,dC,dD,dE,dF,dG,dH,dI,dJ,dK,dL,dM,dN,dO,dP,dQ,dR,dS,dT,bq,bw,bz,bA,dY,dZ,eb,ec,ed,ef,eh],[]⟩ w'):
  (Code.region 30 ops true).wp prog Q ⟨#[u0,u1,u2,u3,u4,u5,u6,u7,u8,u9,gF,gG,gH,gI,gJ,gK,gL,gM,.pointer (some ⟨g18,0,none⟩),gO,.pointer (some ⟨g20,0,none⟩),gQ,gR,gT,gV,gW,gX,gY,gZ,i6,i7,i8,ia,ib,ic,ie,ig,ii,ij,ik,il,im,io,ip,iq,ir,iu,iv,iw,iy,iz,iA,iB,iC,iD,iE,iF,iG,iH,iI,iJ,iK,iL,iM,iN,iO,iP,iQ,iR,iS,iT,iU,iV,iW,iX,iY,iZ,j0,j1,j2,j9,jb,jd,je,jf,jg,jh,ji,jj,jk,jl,jm,jn,jo,jp,jq,jr,js,jt,ju,bB,bD,bE,bF,bG,bH,bI,bJ,bK,bL,bM,bN,bO,bP,bQ,bT,bU,bV,bW,bX,bY,bZ,ca,cj,cn,cx,cy,cz,cA,cB,cD,cF,cG,cH,cI,cJ,cK,cM,cN,cO,cQ,cS,cZ,da,db,dc,dd,de,df,dg,dh,di,dj,dm,du,dw,dx,dy,dz,dA,dB,dC,dD,dE,dF,dG,dH,dI,dJ,dK,dL,dM,dN,dO,dP,dQ,dR,dS,dT,dU,dV,dW,dX,dY,dZ,eb,ec,ed,ef,eh],[]⟩ V:=by
 simp only[Tryz.f36,Zp,z0w] at hops
 simp at hops
 subst hops;have HQ:=hd_ hQ;have H20:=hd_ h20;obtain⟨r0,r1,r2,r3,r4,r5,r6,r7,r8,r9,r10,r11⟩:=z57 h18;obtain⟨x0,x1,x2,x3,x4,x5,x6,x7,x8,x9,x10,x11⟩:=z57 h20;obtain⟨f0,f1,f2,f3,f4,f5,f6,f7,f8,f9,f10,f11⟩:=zf0 h20;have hne2:¬(g18=g20):=fun e=>hne e.symm;clear hQ h18 h20;refine wp_region_noPanic ?_;go_region_law (fail)
 all_goals refine NoPanic.normal ?_
 all_goals exact HQ _ _ _ _ _ (Blk.drew' ((((((H20).set_ 1 (zI 3)).set_ 2 (zI v.ty.base)).set_ 3 (.bool v.ty.k)).set_ 4 (.bool v.ty.l)).set_ 5 (.bool v.ty.x))) (zrn (zrm (zrm (zrm (zrm (zrm (zro _ _) 1 (zI 3)) 2 (zI v.ty.base)) 3 (.bool v.ty.k)) 4 (.bool v.ty.l)) 5 (.bool v.ty.x)))
end
section
variable {u0 u1 u2 u3 u4 u5 u6 u7 u8 u9 gF gG gH gI gJ gK gL gM gN gO gP gQ gR gT gV gW gX gY gZ i6 i7 i8 ia ib ic ie ig ii ij ik il im io ip iq ir iu iv iw iy iz iA iB iC iD iE iF iG iH iI iJ iK iL iM iN iO iP iQ iR iS iT iU iV iW iX iY iZ j0 j1 j2 j9 jb jd je jf jg jh ji jj jk jl jm jn jo jp jq jr js jt ju bB bD bE bF bG bH bI bJ bK bL bM bN bO bP bQ bT bU bV bW bX bY bZ ca cj cn cx cy cz cA cB cD cF cG cH cI cJ cK cM cN cO cQ cS cZ da db dc dd de df dg dh di dj dm du dw dx dy dz dA dB dC dD dE dF dG dH dI dJ dK dL dM dN dO dP dQ dR dS dT dU dV dW dX dY dZ eb ec ed ef eh : zV}
theorem chR23 (ops:Array Oper)(hops:Tryz.f36.body.bind (z0w 23)=some ops)(Q:Exit->Act->zW->Prop)(V:zW)(g18 g20:Nat)(v:Rev)(x:Edt)(h18:Blk V g18 78 [zS v.kt,zI v.num,zI v.chg,zI v.act,zI v.ty.base,.bool v.ty.k,.bool v.ty.l,.bool v.ty.x,.int .u64 v.sum,zI v.size,zS v.frm,zI v.fnum])(h20:Blk V g20 88 [zS x.kt,zI x.act,zI x.ty.base,.bool x.ty.k,.bool x.ty.l,.bool x.ty.x,.int .u64 x.sum,zI x.size,zI x.base,zS x.frm,zI x.fnum,zI x.fence])(hne:g20≠g18)
  (hQ:∀(aT aU aV aW aX aY aZ ba bf bg bh bi bj:zV) (w':zW),Blk w' g20 88 [zS x.kt,zI 4,zI v.ty.base,.bool v.ty.k,.bool v.ty.l,.bool v.ty.x,.int .u64 v.sum,zI v.size,zI x.base,zS v.kt,zI v.num,zI x.fence]->V.grownBy w' (some g20)->Q .normal ⟨#[u0,u1,u2,u3,u4,u5,u6,u7,u8,u9,gF,gG,gH,gI,gJ,gK,gL,gM,gN,gO,.pointer (some ⟨g20,0,none⟩),.pointer (some ⟨g18,0,none⟩),gR,gT,gV,gW,gX,gY,gZ,i6,i7,i8,ia,ib,ic,ie,ig,ii,ij,ik,il,im,io,ip,iq,ir,iu,iv,iw,iy,iz,iA,iB,iC,iD,iE,iF,iG,iH,iI,iJ,iK,iL,iM,iN,iO,iP,iQ,iR,iS,iT,iU,iV,iW,iX,iY,iZ,j0,j1,j2,j9,jb,jd,je,jf,jg,jh,ji,jj,jk,jl,jm,jn,jo,jp,jq,jr,js,jt,ju,bB,bD,bE,bF,bG,bH,bI,bJ,bK,bL,bM,bN,bO,bP,bQ,bT,bU,bV,bW,bX,bY,bZ,ca,cj,cn,cx,cy,cz,cA,cB,cD,cF,cG,cH,cI,cJ,cK,cM,cN,cO,aT,aU,aV,aW,aX,aY,aZ,ba,bf,bg,bh,bi,bj,dm,du,dw,dx,dy,dz,dA,dB,dC,dD,dE,dF,dG,dH,dI,dJ,dK,dL,dM,dN,dO,dP,dQ,dR,dS,dT,dU,dV,dW,dX,dY,dZ,eb,ec,ed,ef,eh],[]⟩ w'):
  (Code.region 23 ops true).wp prog Q ⟨#[u0,u1,u2,u3,u4,u5,u6,u7,u8,u9,gF,gG,gH,gI,gJ,gK,gL,gM,gN,gO,.pointer (some ⟨g20,0,none⟩),.pointer (some ⟨g18,0,none⟩),gR,gT,gV,gW,gX,gY,gZ,i6,i7,i8,ia,ib,ic,ie,ig,ii,ij,ik,il,im,io,ip,iq,ir,iu,iv,iw,iy,iz,iA,iB,iC,iD,iE,iF,iG,iH,iI,iJ,iK,iL,iM,iN,iO,iP,iQ,iR,iS,iT,iU,iV,iW,iX,iY,iZ,j0,j1,j2,j9,jb,jd,je,jf,jg,jh,ji,jj,jk,jl,jm,jn,jo,jp,jq,jr,js,jt,ju,bB,bD,bE,bF,bG,bH,bI,bJ,bK,bL,bM,bN,bO,bP,bQ,bT,bU,bV,bW,bX,bY,bZ,ca,cj,cn,cx,cy,cz,cA,cB,cD,cF,cG,cH,cI,cJ,cK,cM,cN,cO,cQ,cS,cZ,da,db,dc,dd,de,df,dg,dh,di,dj,dm,du,dw,dx,dy,dz,dA,dB,dC,dD,dE,dF,dG,dH,dI,dJ,dK,dL,dM,dN,dO,dP,dQ,dR,dS,dT,dU,dV,dW,dX,dY,dZ,eb,ec,ed,ef,eh],[]⟩ V:=by
 simp only[Tryz.f36,Zp,z0w] at hops
 simp at hops
 subst hops;have HQ:=hd_ hQ;have H20:=hd_ h20;obtain⟨r0,r1,r2,r3,r4,r5,r6,r7,r8,r9,r10,r11⟩:=z57 h18;obtain⟨x0,x1,x2,x3,x4,x5,x6,x7,x8,x9,x10,x11⟩:=z57 h20;obtain⟨f0,f1,f2,f3,f4,f5,f6,f7,f8,f9,f10,f11⟩:=zf0 h20;have hne2:¬(g18=g20):=fun e=>hne e.symm;have H18:=hd_ h18;have HC:Hid (∀ w',Blk w' g18 78 [zS v.kt,zI v.num,zI v.chg,zI v.act,zI v.ty.base,.bool v.ty.k,.bool v.ty.l,.bool v.ty.x,.int .u64 v.sum,zI v.size,zS v.frm,zI v.fnum]->w'.cell? ⟨g18,0,none⟩=some (zS v.kt)/\w'.cell? ⟨g18,1,none⟩=some (zI v.num)/\w'.cell? ⟨g18,4,none⟩=some (zI v.ty.base)/\w'.cell? ⟨g18,5,none⟩=some (.bool v.ty.k)/\w'.cell? ⟨g18,6,none⟩=some (.bool v.ty.l)/\w'.cell? ⟨g18,7,none⟩=some (.bool v.ty.x)/\w'.cell? ⟨g18,8,none⟩=some (.int .u64 v.sum)/\w'.cell? ⟨g18,9,none⟩=some (zI v.size)):=hd_ fun w' h=>⟨h.cell 0,h.cell 1,h.cell 4,h.cell 5,h.cell 6,h.cell 7,h.cell 8,h.cell 9⟩;clear hQ h18 h20;go_region_held3 (fun w'=>Blk w' g18 78 [zS v.kt,zI v.num,zI v.chg,zI v.act,zI v.ty.base,.bool v.ty.k,.bool v.ty.l,.bool v.ty.x,.int .u64 v.sum,zI v.size,zS v.frm,zI v.fnum]/\w'.cell? ⟨g18,0,none⟩=some (zS v.kt)/\w'.cell? ⟨g18,1,none⟩=some (zI v.num)/\w'.cell? ⟨g18,4,none⟩=some (zI v.ty.base)/\w'.cell? ⟨g18,5,none⟩=some (.bool v.ty.k)/\w'.cell? ⟨g18,6,none⟩=some (.bool v.ty.l)/\w'.cell? ⟨g18,7,none⟩=some (.bool v.ty.x)/\w'.cell? ⟨g18,8,none⟩=some (.int .u64 v.sum)/\w'.cell? ⟨g18,9,none⟩=some (zI v.size))
  ((refine z3t ?_ (HC _);repeat (first | with_reducible assumption | with_reducible exact H18.out | with_reducible refine Blk.drew' ?_ | with_reducible refine Blk.far ?_ hne _)))
  (fail)
 all_goals exact HQ _ _ _ _ _ _ _ _ _ _ _ _ _ _ (Blk.drew' ((((((((((H20).set_ 1 (zI 4)).set_ 9 (zS v.kt)).set_ 10 (zI v.num)).set_ 2 (zI v.ty.base)).set_ 3 (.bool v.ty.k)).set_ 4 (.bool v.ty.l)).set_ 5 (.bool v.ty.x)).set_ 6 (.int .u64 v.sum)).set_ 7 (zI v.size))) (zrn (zrm (zrm (zrm (zrm (zrm (zrm (zrm (zrm (zrm (zro _ _) 1 (zI 4)) 9 (zS v.kt)) 10 (zI v.num)) 2 (zI v.ty.base)) 3 (.bool v.ty.k)) 4 (.bool v.ty.l)) 5 (.bool v.ty.x)) 6 (.int .u64 v.sum)) 7 (zI v.size)))
end
section
variable {u0 u1 u2 u3 u4 u5 u6 u7 u8 u9 gF gG gH gI gJ gK gL gM gN gO gP gQ gR gT gV gW gX gY gZ i6 i7 i8 ia ib ic ie ig ii ij ik il im io ip iq ir iu iv iw iy iz iA iB iC iD iE iF iG iH iI iJ iK iL iM iN iO iP iQ iR iS iT iU iV iW iX iY iZ j0 j1 j2 j9 jb jd je jf jg jh ji jj jk jl jm jn jo jp jq jr js jt ju bB bD bE bF bG bH bI bJ bK bL bM bN bO bP bQ bT bU bV bW bX bY bZ ca cj cn cx cy cz cA cB cD cF cG cH cI cJ cK cM cN cO cQ cS cZ da db dc dd de df dg dh di dj dm du dw dx dy dz dA dB dC dD dE dF dG dH dI dJ dK dL dM dN dO dP dQ dR dS dT dU dV dW dX dY dZ eb ec ed ef eh : zV}
theorem chR16 (ops:Array Oper)(hops:Tryz.f36.body.bind (z0w 16)=some ops)(Q:Exit->Act->zW->Prop)(V:zW)(g gw g18 g20:Nat)(v:Rev)(x:Edt)(F:zW->Prop)(h18:Blk V g18 78 [zS v.kt,zI v.num,zI v.chg,zI v.act,zI v.ty.base,.bool v.ty.k,.bool v.ty.l,.bool v.ty.x,.int .u64 v.sum,zI v.size,zS v.frm,zI v.fnum])(hne:g20≠g18)
  (hCO:∀ X,zB V X->Calls prog 81 #[.pointer (some ⟨gw,0,none⟩),.pointer (some ⟨g,0,none⟩)] X fun e w'=>∃ s z:Nat,e=.returned (.agg #[.int .u64 s,zI z])/\Blk w' g18 78 [zS v.kt,zI v.num,zI v.chg,zI v.act,zI v.ty.base,.bool v.ty.k,.bool v.ty.l,.bool v.ty.x,.int .u64 v.sum,zI v.size,zS v.frm,zI v.fnum]/\Blk w' g20 88 [zS x.kt,zI x.act,zI x.ty.base,.bool x.ty.k,.bool x.ty.l,.bool x.ty.x,.int .u64 x.sum,zI x.size,zI x.base,zS x.frm,zI x.fnum,zI x.fence]/\F w')
  (hQ:∀(ab ac ag ah ai aj ak al:zV) (s z:Nat) (w8 w':zW),F w8->Blk w' g20 88 [zS x.kt,zI 2,zI v.ty.base,.bool v.ty.k,.bool v.ty.l,.bool v.ty.x,.int .u64 s,zI z,zI x.base,zS x.frm,zI x.fnum,zI x.fence]->Blk w8 g18 78 [zS v.kt,zI v.num,zI v.chg,zI v.act,zI v.ty.base,.bool v.ty.k,.bool v.ty.l,.bool v.ty.x,.int .u64 v.sum,zI v.size,zS v.frm,zI v.fnum]->w8.grownBy w' (some g20)->Q .normal ⟨#[.pointer (some ⟨gw,0,none⟩),.pointer (some ⟨g,0,none⟩),u2,u3,u4,u5,u6,u7,u8,u9,gF,gG,gH,gI,gJ,gK,gL,gM,.pointer (some ⟨g18,0,none⟩),gO,.pointer (some ⟨g20,0,none⟩),gQ,gR,gT,gV,gW,gX,gY,gZ,i6,i7,i8,ia,ib,ic,ie,ig,ii,ij,ik,il,im,io,ip,iq,ir,iu,iv,iw,iy,iz,iA,iB,iC,iD,iE,iF,iG,iH,iI,iJ,iK,iL,iM,iN,iO,iP,iQ,iR,iS,iT,iU,iV,iW,iX,iY,iZ,j0,j1,j2,j9,jb,jd,je,jf,jg,jh,ji,jj,jk,jl,jm,jn,jo,jp,jq,jr,js,jt,ju,bB,bD,ab,ac,ag,ah,ai,aj,ak,al,bM,bN,bO,bP,bQ,bT,bU,bV,bW,bX,bY,bZ,ca,cj,cn,cx,cy,cz,cA,cB,cD,cF,cG,cH,cI,cJ,cK,cM,cN,cO,cQ,cS,cZ,da,db,dc,dd,de,df,dg,dh,di,dj,dm,du,dw,dx,dy,dz,dA,dB,dC,dD,dE,dF,dG,dH,dI,dJ,dK,dL,dM,dN,dO,dP,dQ,dR,dS,dT,dU,dV,dW,dX,dY,dZ,eb,ec,ed,ef,eh],[]⟩ w'):
  (Code.region 16 ops true).wp prog Q ⟨#[.pointer (some ⟨gw,0,none⟩),.pointer (some ⟨g,0,none⟩),u2,u3,u4,u5,u6,u7,u8,u9,gF,gG,gH,gI,gJ,gK,gL,gM,.pointer (some ⟨g18,0,none⟩),gO,.pointer (some ⟨g20,0,none⟩),gQ,gR,gT,gV,gW,gX,gY,gZ,i6,i7,i8,ia,ib,ic,ie,ig,ii,ij,ik,il,im,io,ip,iq,ir,iu,iv,iw,iy,iz,iA,iB,iC,iD,iE,iF,iG,iH,iI,iJ,iK,iL,iM,iN,iO,iP,iQ,iR,iS,iT,iU,iV,iW,iX,iY,iZ,j0,j1,j2,j9,jb,jd,je,jf,jg,jh,ji,jj,jk,jl,jm,jn,jo,jp,jq,jr,js,jt,ju,bB,bD,bE,bF,bG,bH,bI,bJ,bK,bL,bM,bN,bO,bP,bQ,bT,bU,bV,bW,bX,bY,bZ,ca,cj,cn,cx,cy,cz,cA,cB,cD,cF,cG,cH,cI,cJ,cK,cM,cN,cO,cQ,cS,cZ,da,db,dc,dd,de,df,dg,dh,di,dj,dm,du,dw,dx,dy,dz,dA,dB,dC,dD,dE,dF,dG,dH,dI,dJ,dK,dL,dM,dN,dO,dP,dQ,dR,dS,dT,dU,dV,dW,dX,dY,dZ,eb,ec,ed,ef,eh],[]⟩ V:=by
 simp only[Tryz.f36,Zp,z0w] at hops
 simp at hops
 subst hops;have HQ:=hd_ hQ;have HCO:=hd_ hCO;obtain⟨r0,r1,r2,r3,r4,r5,r6,r7,r8,r9,r10,r11⟩:=z57 h18;have hne2:¬(g18=g20):=fun e=>hne e.symm;clear hQ h18 hCO;refine wp_region_noPanic ?_;go_region_law (first
  | (go_simp;go_at_call 81;refine (HCO _ (by repeat (first | exact Zb _ _ | refine Below.drew ?_))).mono ?_;rintro e w8 ⟨s,z,rfl,h18,h20,hF⟩;obtain⟨p0,p1,p2,p3,p4,p5,p6,p7,p8,p9,p10,p11⟩:=z57 h18;obtain⟨x0,x1,x2,x3,x4,x5,x6,x7,x8,x9,x10,x11⟩:=z57 h20;obtain⟨f0,f1,f2,f3,f4,f5,f6,f7,f8,f9,f10,f11⟩:=zf0 h20))
 all_goals refine NoPanic.normal ?_
 all_goals first
  | exact HQ _ _ _ _ _ _ _ _ s z w8 _ hF ((((((((h20).set_ 1 (zI 2)).set_ 2 (zI v.ty.base)).set_ 3 (.bool v.ty.k)).set_ 4 (.bool v.ty.l)).set_ 5 (.bool v.ty.x)).set_ 6 (.int .u64 s)).set_ 7 (zI z)) h18 (zrm (zrm (zrm (zrm (zrm (zrm (zrm (zro _ _) 1 (zI 2)) 2 (zI v.ty.base)) 3 (.bool v.ty.k)) 4 (.bool v.ty.l)) 5 (.bool v.ty.x)) 6 (.int .u64 s)) 7 (zI z))
  | exact HQ _ _ _ _ _ _ _ _ s z w8 _ hF (Blk.drew' ((((((((h20).set_ 1 (zI 2)).set_ 2 (zI v.ty.base)).set_ 3 (.bool v.ty.k)).set_ 4 (.bool v.ty.l)).set_ 5 (.bool v.ty.x)).set_ 6 (.int .u64 s)).set_ 7 (zI z))) h18 (zrn (zrm (zrm (zrm (zrm (zrm (zrm (zrm (zro _ _) 1 (zI 2)) 2 (zI v.ty.base)) 3 (.bool v.ty.k)) 4 (.bool v.ty.l)) 5 (.bool v.ty.x)) 6 (.int .u64 s)) 7 (zI z)))
end
