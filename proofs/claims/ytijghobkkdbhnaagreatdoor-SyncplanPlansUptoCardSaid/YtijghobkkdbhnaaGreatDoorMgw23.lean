/- A part. -/
import Derived.Test.YtijghobkkdbhnaaGreatDoorMgw19
import Derived.Test.YtijghobkkdbhnaaGreatDoorMgw20
import Derived.Test.YtijghobkkdbhnaaGreatDoorMgw21
set_option linter.unusedVariables false
set_option linter.unusedSimpArgs false
set_option maxHeartbeats 8000000
set_option maxRecDepth 100000
namespace Go.Proofs.YtijghobkkdbhnaaGreatDoor
open Go.Proofs.Tryz
open Go.RowKit
def zdx (x:zdd)(p:ByteArray):Option ByteArray:=match zc7 x.l.1 x.r.1 p with
 | none=>none
 | some s=>if zdu x.hs p then none else some s
def zdy (es:List zdd)(p:ByteArray):Option ByteArray:=es.findSome? (zdx · p)
def zdz (es:List zdd)(p:ByteArray):Prop:=∀ x∈es,∀ caps,z8j x.l.1 p=some caps→zc0 x.r.1 caps
theorem ze0 {es:List zdd}{p:ByteArray}{k:Nat}(hk:k<es.length)(h0:∀ j (hj:j<es.length),j<k→zdx es[j] p=none):zdy es p=(zdx es[k] p).or (zdy (es.drop (k+1)) p):=by
 induction es generalizing k with
 | nil=>simp at hk
 | cons x es ih =>
  unfold zdy;rw[List.findSome?_cons];cases k with
  | zero =>
   simp only[List.getElem_cons_zero,Nat.zero_add,List.drop_succ_cons,List.drop_zero]
   cases zdx x p <;> rfl
  | succ k =>
   have hx:zdx x p=none:=h0 0 (by simp) (by omega)
   rw[hx];exact ih (by simpa using hk) fun j hj hjk=>h0 (j+1) (by simpa using hj) (by omega)
theorem ze1 {es:List zdd}{p:ByteArray}(h0:∀ j (hj:j<es.length),zdx es[j] p=none):zdy es p=none:=by
 unfold zdy;rw[List.findSome?_eq_none_iff];intro x hx;obtain⟨k,hk,rfl⟩:=List.getElem_of_mem hx;exact h0 k hk
theorem ze2 (es:List zdd)(v:Value)(p:ByteArray)(w:World)(he:Env w)(hE:zdn w v es)(hM:zdo es)(hF:zdz es p)(hz:p.size≤1000000):
  Calls prog 36 #[v,.string p] w (zc8 w (zdy es p)):=by
 obtain⟨A,c,rfl,-⟩:=id hE.1;have hl32:=hM.len;have hA:Below w.heap.size w (w.alloc (.cells #[.string p] 9)):=(Below.refl _ _).alloc (Nat.le_refl _) _;have hS:=z0l w [.string p] 9;have HE:=hd_ (fun X (hX:Below w.heap.size w X)=>hE.below hX);have HEV:=hd_ (fun X (hX:Below w.heap.size w X)=>he.below hX);have HM:=hd_ hM;have HF:=hd_ hF;have HAT:=hd_ (fun k hk=>@ze0 es p k hk);have HNO:=hd_ (@ze1 es p);generalize zdy es p=r at HAT HNO ⊢;have HA:=hd_ hA;have HS:=hd_ hS;clear hE hM hF he hA hS;go_enter func36,ntmps36;go_upto_region 1 with fail;generalize w.alloc (.cells #[.string p] 9)=W1 at HA HS ⊢;go_wp2_with fail;go_loopw [12] (fun i wr=>∃ k:Nat,i=.int .i64 k∧k≤es.length∧Hid (Below W1.heap.size W1 wr∧∀ j (hj:j<es.length),j<k→zdx es[j] p=none)) (fun i _=>es.length - (intOf i).toNat)
 case atStart=>exact⟨0,rfl,Nat.zero_le _,hd_ ⟨Below.refl _ _,fun j _ h=>by omega⟩⟩
 case round =>
  obtain⟨k,rfl,hk,HI⟩:=hrel;by_cases hlt:k<es.length
  ·have HBW:=hd_ (z0r HA.out HI.out.1);have HEX:=hd_ (HE.out wr HBW.out);obtain⟨ad,rfl,hab,s0,s1,s2,s3,s4⟩:=HEX.out.at_ hlt;have HXI:=hd_ (HEX.out.2 es[k] (List.getElem_mem hlt));have HXO:=hd_ (HM.out.ok es[k] (List.getElem_mem hlt));have HXF:=hd_ (HF.out es[k] (List.getElem_mem hlt));have HR1:=hd_ (HAT.out k hlt HI.out.2);have HJ:Hid (zdx es[k] p=none→∀ j (hj:j<es.length),j<k+1→zdx es[j] p=none):=hd_ (fun h j hj hjk=>by
    by_cases e:j=k
    ·subst e;exact h
    ·exact HI.out.2 j hj (by omega))
   generalize es[k]=x at s0 s1 s2 s3 s4 HXI HXO HXF HR1 HJ;obtain⟨H,hc,hhv⟩:=HXI.out.holes;obtain⟨⟨pl,Al,cl⟩,⟨pr,Ar,cr⟩,hv,hs⟩:=x;change hv=.slice H hs.length hc at hhv;subst hhv;change wr.cell? _=some (.slice Al pl.parts.length cl) at s0;change wr.cell? _=some (.bool pl.rest) at s1;change wr.cell? _=some (.slice Ar pr.parts.length cr) at s2;change wr.cell? _=some (.bool pr.rest) at s3;change wr.cell? _=some (.slice H hs.length hc) at s4;have hX:Below wr.heap.size wr (wr.alloc (.cells #[.slice Al pl.parts.length cl,.bool pl.rest,.slice Ar pr.parts.length cr,.bool pr.rest,.slice H hs.length hc] 71)):=(Below.refl _ _).alloc (Nat.le_refl _) _;have HXP:=hd_ (HXI.out.below hX);have HX:=hd_ (z0r HI.out.1 hX);have HN:Hid (Blk (wr.alloc (.cells #[.slice Al pl.parts.length cl,.bool pl.rest,.slice Ar pr.parts.length cr,.bool pr.rest,.slice H hs.length hc] 71)) wr.heap.size 71 [.slice Al pl.parts.length cl,.bool pl.rest,.slice Ar pr.parts.length cr,.bool pr.rest,.slice H hs.length hc]):=hd_ (z0l wr _ _);have HLT:=hd_ hlt;clear hab hX;go_upto_region 4 with fail;generalize wr.alloc (.cells #[.slice Al pl.parts.length cl,.bool pl.rest,.slice Ar pr.parts.length cr,.bool pr.rest,.slice H hs.length hc] 71)=W4 at HX HN HXP ⊢;generalize wr.heap.size=g7 at HN ⊢;clear s0 s1 s2 s3 s4;obtain⟨x0,x1,x2,x3,x4⟩:=(⟨HN.out.cell 0,HN.out.cell 1,HN.out.cell 2,HN.out.cell 3,HN.out.cell 4⟩:W4.cell? ⟨g7,0,none⟩=some (.slice Al pl.parts.length cl)∧W4.cell? ⟨g7,1,none⟩=some (.bool pl.rest)∧W4.cell? ⟨g7,2,none⟩=some (.slice Ar pr.parts.length cr)∧W4.cell? ⟨g7,3,none⟩=some (.bool pr.rest)∧W4.cell? ⟨g7,4,none⟩=some (.slice H hs.length hc));have p0:W4.cell? ⟨w.heap.size,0,none⟩=some (.string p):=(HS.out.below HX.out HS.out.lt).cell 0;have HRF:=hd_ (zca false pl pr p Al Ar cl cr W4 (HEV.out W4 (z0r HA.out HX.out)) hz HXP.out.l HXP.out.r HXO.out.rule HXF.out);have HONE:Hid (zdx ⟨(pl,Al,cl),(pr,Ar,cr),.slice H hs.length hc,hs⟩ p=match zc7 pl pr p with | none=>none | some s=>if zdu hs p then none else some s):=hd_ rfl
   obtain⟨o,ho⟩:∃ o,zc7 pl pr p=o:=⟨_,rfl⟩;rw[ho] at HRF HONE;clear ho;cases o with
   | none =>
    have HNX:=hd_ (HJ.out HONE.out);go_wp2_with fail;refine HRF.out.mono ?_;rintro e w5 ⟨rfl,hb⟩;have HB:=hd_ (z0r HX.out hb);clear hb x0 x1 x2 x3 x4 p0;go_wp2_with fail;go_roundw
    case rel=>exact⟨k+1,by go_num,by omega,hd_ ⟨HB.out,HNX.out⟩⟩
    case measure=>simp [intOf];omega
   | some s =>
    have HCH:=hd_ (fun X (hX:Below W4.heap.size W4 X)=>zdw hs H hc w.heap.size p X (HEV.out X (z0r HA.out (z0r HX.out hX))) (HXP.out.h.below hX) ((HS.out.below (z0r HX.out hX) HS.out.lt).cell 0) hz HXP.out.n);go_wp2_with fail;refine HRF.out.mono ?_;rintro e w5 ⟨rfl,hb⟩;have HB:=hd_ (z0r HX.out hb);have HC5:=hd_ (HCH.out w5 hb);have x4':w5.cell? ⟨g7,4,none⟩=some (.slice H hs.length hc):=(HN.out.below hb HN.out.lt).cell 4;clear hb x0 x1 x2 x3 x4 p0 HCH;obtain⟨hb9,hh9⟩:∃ b,zdu hs p=b:=⟨_,rfl⟩;rw[hh9] at HC5 HONE;clear hh9;cases hb9 with
    | true =>
     have HNX:=hd_ (HJ.out HONE.out);go_wp2_with fail;refine HC5.out.mono ?_;rintro e w6 ⟨rfl,hb⟩;have HB6:=hd_ (z0r HB.out hb);clear hb x4';go_wp2_with fail;go_roundw
     case rel=>exact⟨k+1,by go_num,by omega,hd_ ⟨HB6.out,HNX.out⟩⟩
     case measure=>simp [intOf];omega
    | false =>
     have HRR:Hid (r=some s):=hd_ (by rw[HR1.out,HONE.out];rfl)
     go_wp2_with fail;refine HC5.out.mono ?_;rintro e w6 ⟨rfl,hb⟩;have HB6:=hd_ (z0r HB.out hb);clear hb x4';go_wp2_with fail;go_ret2;exact⟨by rw[HRR.out];rfl,z0r HA.out HB6.out⟩
  ·have hke:k=es.length:=by omega
   subst hke;have HR:=hd_ (HNO.out (fun j hj=>HI.out.2 j hj hj));have HB:=hd_ (z0r HA.out HI.out.1);have hge:¬((es.length:Int)<(es.length:Int)):=by omega
   go_wp2_with fail;go_ret2;exact⟨by rw[HR.out];rfl,HB.out⟩
theorem neq_syn (x:Syn)(W:World):(binOp .neq 50 (.agg #[.int .i64 x.kind,.string x.path,.int .i64 x.num,.string x.frm,.string x.dst]) (.agg #[.int .i64 x.kind,.string x.path,.int .i64 x.num,.string x.frm,.string x.dst])).run prog W=.ok (.bool false) W:=by
 rw[run_neq_struct,run_equalIn_agg W 9999 50 _ _ (by kernel_rfl) (by kernel_rfl)]
 simp [go_sem,Op.eqFields]
theorem zms (L:List Syn)(v u:Value)(w:World)(h1:z4z w v L)(h2:z4z w u L):
  Calls prog 14 #[v,u] w fun e w'=>e=.returned (.bool true)∧Below w.heap.size w w':=by
 obtain⟨A1,c1,rfl,-,hmm,-⟩:=id h1;obtain⟨A2,c2,rfl,-⟩:=id h2;unfold maxLen at hmm;have hml:L.length≤9223372036854775807:=by obtain⟨A',c',e,h,-⟩:=id h1;injection e;omega
 have H1:=hd_ h1;have H2:=hd_ h2;clear h1 h2;have q0:((L.length:Int) != (L.length:Int))=false:=by simp
 go_enter func14,ntmps14;go_wp2_with fail;clear q0;go_loopw [5] (fun s wr=>∃ k:Nat,s=.int .i64 k∧k≤L.length∧Hid (Below w.heap.size w wr)) (fun s _=>L.length - (intOf s).toNat)
 case atStart=>exact⟨0,rfl,Nat.zero_le _,Below.refl _ _⟩
 case round =>
  obtain⟨k,rfl,hk,HI⟩:=hrel;by_cases hlt:k<L.length
  ·obtain⟨a1,rfl,hb1,hx⟩:=z4z.at_ (Row.below H1.out HI.out) hlt;obtain⟨a2,rfl,hb2,hy⟩:=z4z.at_ (Row.below H2.out HI.out) hlt;have hz1:(k:Int)<(L.length:Int):=by omega
   generalize L[k]=r at hx hy;obtain⟨x0,x1,x2,x3,x4⟩:=hx;obtain⟨y0,y1,y2,y3,y4⟩:=hy;have hne:=neq_syn r;go_upto_region 6 with fail;go_quiet (fail)
   clear x0 x1 x2 x3 x4 y0 y1 y2 y3 y4 hne;go_wp2_with fail;go_roundw
   case rel=>exact⟨k+1,by go_num,by omega,z0p HI.out _⟩
   case measure=>simp [intOf];omega
  ·have HB:=hd_ HI.out;have hge:¬((k:Int)<(L.length:Int)):=by omega
   go_wp2_with fail;go_ret;exact⟨rfl,HB.out⟩
theorem zn0 {p:Pat}(h:z7j p=0):p.parts.length≤12:=by
 unfold z7j at h;split at h
 ·cases h
 ·split at h
  ·cases h
  ·split at h
   ·cases h
   ·omega
theorem zn1 (p q:Pat)(A B:Option Addr)(a b:Nat)(w:World)(hp:zae w (.slice A p.parts.length a) p)(hq:zae w (.slice B q.parts.length b) q)(hpr:p.rest=true)(hqr:q.rest=true)(hpe:z7j p=0)(hqe:z7j q=0)(hw:WiOk p q):
  Calls prog 115 #[.agg #[.slice A p.parts.length a,.bool true],.agg #[.slice B q.parts.length b,.bool true]] w fun e w'=>e=.returned (.bool true)∧Below w.heap.size w w':=by
 have hA:Below w.heap.size w ((w.alloc (.cells #[.slice A p.parts.length a,.bool true] 68)).alloc (.cells #[.slice B q.parts.length b,.bool true] 68)):=((Below.refl _ _).alloc (Nat.le_refl _) _).alloc (by simp) _
 have h2:zbt ((w.alloc (.cells #[.slice A p.parts.length a,.bool true] 68)).alloc (.cells #[.slice B q.parts.length b,.bool true] 68)) w.heap.size (.slice A p.parts.length a) true:=(z0l w [.slice A p.parts.length a,.bool true] 68).alloc _;have h3:zbt ((w.alloc (.cells #[.slice A p.parts.length a,.bool true] 68)).alloc (.cells #[.slice B q.parts.length b,.bool true] 68)) (w.heap.size+1) (.slice B q.parts.length b) true:=by
  have:=z0l (w.alloc (.cells #[.slice A p.parts.length a,.bool true] 68)) [.slice B q.parts.length b,.bool true] 68;rw[World.size_alloc] at this;exact this
 have HCP:=hd_ (fun X (hX:Below w.heap.size w X)=>zcf p A a X (hp.below hX).1 hp.small);have HCQ:=hd_ (fun X (hX:Below w.heap.size w X)=>zcf q B b X (hq.below hX).1 hq.small);rw[hpe,hpr] at HCP;rw[hqe,hqr] at HCQ;have HIN:Hid (∀(k:Nat) (h:k<q.parts.length) (h2:k<p.parts.length) X,Calls prog 117 #[.string p.parts[k],.string q.parts[k]] X fun e w'=>e=.returned (.bool true)∧Below X.heap.size X w'):=hd_ fun k h h2 X=>by
  have:=zm0 p.parts[k] q.parts[k] X (zch hpe _) (zch hqe h) (hp.2 _ (List.getElem_mem _)) (hq.2 _ (List.getElem_mem h));rw[hw.all k h] at this;exact this
 have HP:=hd_ hp;have HQ:=hd_ hq;have hle:=hw.le;have hq12:=zn0 hqe;have q1:decide ((p.parts.length:Int)<(q.parts.length:Int))=false:=by simp;omega
 clear hp hq hpe hqe hpr hqr hw;go_enter func115,ntmps115;go_upto_region 1 with fail;generalize (w.alloc (.cells #[.slice A p.parts.length a,.bool true] 68)).alloc (.cells #[.slice B q.parts.length b,.bool true] 68)=W1 at hA h2 h3 ⊢;have x0:=h2.c0;have x1:=h2.c1;have y0:=h3.c0;have y1:=h3.c1;have H:=hd_ (And.intro hA (And.intro h2 h3));have HC1:=hd_ (HCP.out W1 hA);clear hA h2 h3;go_wp2_with fail;refine HC1.out.mono ?_;rintro e w2 ⟨rfl,hb⟩;dsimp only;have HB:=hd_ (z0r H.out.1 hb);have HG:=hd_ (And.intro (H.out.2.1.low hb) (H.out.2.2.low hb));have HC2:=hd_ (HCQ.out w2 HB.out);clear hb x0 x1 y0 y1;have x0:=HG.out.1.c0;have x1:=HG.out.1.c1;have y0:=HG.out.2.c0;have y1:=HG.out.2.c1;go_wp2_with fail;refine HC2.out.mono ?_;rintro e w3 ⟨rfl,hb⟩;dsimp only;have HB3:=hd_ (z0r HB.out hb);have HG3:=hd_ (And.intro (HG.out.1.low hb) (HG.out.2.low hb));clear hb x0 x1 y0 y1;have x0:=HG3.out.1.c0;have x1:=HG3.out.1.c1;have y0:=HG3.out.2.c0;have y1:=HG3.out.2.c1;obtain⟨cc,hcc⟩:∃ cc,((p.parts.length:Int) == (q.parts.length:Int))=cc:=⟨_,rfl⟩;cases cc
 all_goals
  go_wp2_with fail;clear x0 x1 y0 y1 hcc;go_loopw [59] (fun i wr=>∃ k:Nat,i=.int .i64 k∧k≤q.parts.length∧Hid (Below w3.heap.size w3 wr)) (fun i _=>q.parts.length - (intOf i).toNat)
  case atStart=>exact⟨0,rfl,Nat.zero_le _,hd_ (Below.refl _ _)⟩
  case round =>
   obtain⟨k,rfl,hk,HI⟩:=hrel;by_cases hlt:k<q.parts.length
   ·obtain⟨ad,rfl,hab,s0⟩:=Strs.at_ (HQ.out.below (z0r HB3.out HI.out)).1 hlt;obtain⟨ad2,rfl,hab2,s1⟩:=Strs.at_ (HP.out.below (z0r HB3.out HI.out)).1 (Nat.lt_of_lt_of_le hlt hle);have HCI:=hd_ (HIN.out k hlt (Nat.lt_of_lt_of_le hlt hle) wr);have hlt2:=Nat.lt_of_lt_of_le hlt hle;have x0:=(HG3.out.1.low HI.out).c0;have HLT:=hd_ hlt;generalize q.parts[k]=u at s0 HCI;generalize p.parts[k]=v at s1 HCI;go_wp2_with fail;refine HCI.out.mono ?_;rintro e w4 ⟨rfl,hb⟩;dsimp only;have HB4:=hd_ (z0r HI.out hb);clear hb s0 s1 x0;go_wp2_with fail;go_roundw
    case rel=>exact⟨k+1,by go_num,by have:=HLT.out;omega,HB4⟩
    case measure=>have:=HLT.out;simp [intOf];omega
   ·have hke:k=q.parts.length:=by omega
    have HB5:=hd_ (z0r HB3.out HI.out);subst hke;go_wp2_with fail;go_ret;exact⟨rfl,HB5.out⟩
def zni (b:Pat)(hs:List zd6)(p:ByteArray):Bool:=(z8j b p).isSome && !zdu hs p
theorem znj (b:Pat)(hs:List zd6)(A H:Option Addr)(a hc:Nat)(p:ByteArray)(w:World)(he:Env w)(hb:zae w (.slice A b.parts.length a) b)(hh:zd7 w (.slice H hs.length hc) hs)(hz:p.size≤1000000)(hn:hs.length≤1000):
  Calls prog 137 #[.agg #[.slice A b.parts.length a,.bool b.rest,.slice H hs.length hc],.string p] w fun e w'=>e=.returned (.bool (zni b hs p))∧Below w.heap.size w w':=by
 have hB:=z0l w [.slice A b.parts.length a,.bool b.rest,.slice H hs.length hc] 78;have hA:Below w.heap.size w (w.alloc (.cells #[.slice A b.parts.length a,.bool b.rest,.slice H hs.length hc] 78)):=(Below.refl _ _).alloc (Nat.le_refl _) _;have HM:=hd_ (fun X (hX:Below w.heap.size w X)=>zci b p A a X (he.below hX) hz (hb.below hX).1 hb.small);have HMQ:=hd_ (fun(q:Pat) (Q:Option Addr) (c:Nat) X (hX:Below w.heap.size w X) (hq:zae X (.slice Q q.parts.length c) q)=>zci q p Q c X (he.below hX) hz hq.1 hq.small);have HNO:Hid (∀ k (hk:k<hs.length),(z8j hs[k].1 p).isSome=true→zdu hs p=true):=hd_ (fun k hk h=>List.any_eq_true.2 ⟨_,List.getElem_mem hk,h⟩);have HYE:Hid ((∀ k (hk:k<hs.length),(z8j hs[k].1 p).isSome=false)→zdu hs p=false):=hd_ (fun h=>by
  unfold zdu;rw[List.any_eq_false];intro q hq;obtain⟨k,hk,rfl⟩:=List.getElem_of_mem hq;rw[h k hk];decide)
 have HHB:Hid (zni b hs p=((z8j b p).isSome && !zdu hs p)):=hd_ rfl;generalize zdu hs p=r at HNO HYE HHB;have HH:=hd_ hh;clear he hb hh;go_enter func137,ntmps137;go_upto_region 1 with fail;generalize w.alloc (.cells #[.slice A b.parts.length a,.bool b.rest,.slice H hs.length hc] 78)=W1 at hA hB ⊢;obtain⟨d0,d1⟩:=(⟨hB.cell 0,hB.cell 1⟩:W1.cell? ⟨w.heap.size,0,none⟩=some (.slice A b.parts.length a)∧W1.cell? ⟨w.heap.size,1,none⟩=some (.bool b.rest));have HB:=hd_ hB;have HA:=hd_ hA;have HC1:=hd_ (HM.out W1 hA);clear hA hB HM;go_wp2_with fail;refine HC1.out.mono ?_;rintro e w2 ⟨A',n,c',rfl,hb2,-⟩;dsimp only;have HB2:=hd_ (z0r HA.out hb2);have HX2:=hd_ (HB.out.below hb2 HB.out.lt);clear hb2 d0 d1 HC1;generalize (z8j b p).isSome=o at HHB ⊢;cases o with
 | false =>
  have HF:Hid (zni b hs p=false):=hd_ (by rw[HHB.out];rfl)
  go_wp2_with fail;go_ret;exact⟨z0w HF.out.symm,HB2.out⟩
 | true =>
  have HF:Hid (zni b hs p=!r):=hd_ (by rw[HHB.out];rfl)
  have d2:w2.cell? ⟨w.heap.size,2,none⟩=some (.slice H hs.length hc):=HX2.out.cell 2;go_wp2_with fail;clear d2;go_loopw [23] (fun i wr=>∃ k:Nat,i=.int .i64 k∧k≤hs.length∧Hid ((∀ j (hj:j<hs.length),j<k→(z8j hs[j].1 p).isSome=false)∧Below w2.heap.size w2 wr)) (fun i _=>hs.length - (intOf i).toNat)
  case atStart=>exact⟨0,rfl,Nat.zero_le _,hd_ ⟨fun j _ h=>by omega,Below.refl _ _⟩⟩
  case round =>
   obtain⟨k,rfl,hk,HI⟩:=hrel;by_cases hlt:k<hs.length
   ·have HHX:=hd_ (HH.out.below (z0r HB2.out HI.out.2));obtain⟨ad,rfl,hab,s0,s1⟩:=HHX.out.at_ hlt;have HPK:=hd_ (HHX.out.2 hs[k] (List.getElem_mem hlt));have HY:=hd_ (HNO.out k hlt);have HN:Hid ((z8j hs[k].1 p).isSome=false→∀ j (hj:j<hs.length),j<k+1→(z8j hs[j].1 p).isSome=false):=hd_ (fun h j hj hjk=>by
     by_cases e:j=k
     ·subst e;exact h
     ·exact HI.out.1 j hj (by omega))
    have HBI:=hd_ HI.out.2;have HLT:=hd_ hlt;generalize hs[k]=q at s0 s1 HPK HY HN;obtain⟨q,Aq,cq⟩:=q;change wr.cell? _=some (.slice Aq q.parts.length cq) at s0;change wr.cell? _=some (.bool q.rest) at s1;have hX:Below wr.heap.size wr (wr.alloc (.cells #[.slice Aq q.parts.length cq,.bool q.rest] 68)):=(Below.refl _ _).alloc (Nat.le_refl _) _;have HBX:=hd_ (z0r HBI.out hX);have HCQ:=hd_ (HMQ.out q Aq cq _ (z0r HB2.out HBX.out) (HPK.out.below hX));clear hab hX HI;dsimp only at HY HN
    go_wp2_with fail;refine HCQ.out.mono ?_;rintro e w4 ⟨A4,n4,c4,rfl,hb4,-⟩;dsimp only;have HB4:=hd_ (z0r HBX.out hb4);clear hb4 s0 s1;generalize (z8j q p).isSome=oq at HY HN ⊢;cases oq with
    | false =>
     have HN2:=hd_ (HN.out rfl);go_wp2_with fail;go_roundw
     case rel=>exact⟨k+1,by go_num,by have:=HLT.out;omega,hd_ ⟨HN2.out,HB4.out⟩⟩
     case measure=>have:=HLT.out;simp [intOf];omega
    | true =>
     have HR:=hd_ (HY.out rfl);have HB5:=hd_ (z0r HB2.out HB4.out);go_wp2_with fail;go_ret;exact⟨z0w (by rw[HF.out,HR.out];rfl),HB5.out⟩
   ·have hke:k=hs.length:=by omega
    have HR:=hd_ (HYE.out (fun j hj=>HI.out.1 j hj (by omega)))
    have HB5:=hd_ (z0r HB2.out HI.out.2);clear HI;subst hke;go_wp2_with fail;go_ret;exact⟨z0w (by rw[HF.out,HR.out];rfl),HB5.out⟩
theorem rBy_ok (es:List zdd)(v:Value)(p:ByteArray)(w:World)(he:Env w)(hE:zdn w v es)(hl32:es.length≤32)(hz:p.size≤1000000)
  (hF:∀ x∈es,∀ X,Below w.heap.size w X→Calls prog 138 #[.agg #[.bool false,x.l.v,.bool x.l.1.rest,x.r.v,.bool x.r.1.rest],.string p] X (zc8 X (zc7 x.l.1 x.r.1 p))):
  Calls prog 79 #[v,.string p] w (zc8 w (zdy es p)):=by
 obtain⟨A,c,rfl,-⟩:=id hE.1;have HE:=hd_ (fun X (hX:Below w.heap.size w X)=>hE.below hX);have HEV:=hd_ (fun X (hX:Below w.heap.size w X)=>he.below hX);have HF:=hd_ hF;have HAT:=hd_ (fun k hk=>@ze0 es p k hk);have HNO:=hd_ (@ze1 es p);generalize zdy es p=r at HAT HNO ⊢;clear hE he hF;go_enter func79,ntmps79;go_wp2_with fail;go_loopw [10] (fun i wr=>∃ k:Nat,i=.int .i64 k∧k≤es.length∧Hid (Below w.heap.size w wr∧∀ j (hj:j<es.length),j<k→zdx es[j] p=none)) (fun i _=>es.length - (intOf i).toNat)
 case atStart=>exact⟨0,rfl,Nat.zero_le _,hd_ ⟨Below.refl _ _,fun j _ h=>by omega⟩⟩
 case round =>
  obtain⟨k,rfl,hk,HI⟩:=hrel;by_cases hlt:k<es.length
  ·have HBW:=hd_ HI.out.1;have HEX:=hd_ (HE.out wr HBW.out);obtain⟨ad,rfl,hab,s0,s1,s2,s3,s4⟩:=HEX.out.at_ hlt;have HXI:=hd_ (HEX.out.2 es[k] (List.getElem_mem hlt));have HXF:=hd_ (HF.out es[k] (List.getElem_mem hlt));have HR1:=hd_ (HAT.out k hlt HI.out.2);have HJ:Hid (zdx es[k] p=none→∀ j (hj:j<es.length),j<k+1→zdx es[j] p=none):=hd_ (fun h j hj hjk=>by
    by_cases e:j=k
    ·subst e;exact h
    ·exact HI.out.2 j hj (by omega))
   generalize es[k]=x at s0 s1 s2 s3 s4 HXI HXF HR1 HJ;obtain⟨H,hc,hhv⟩:=HXI.out.holes;obtain⟨⟨pl,Al,cl⟩,⟨pr,Ar,cr⟩,hv,hs⟩:=x;change hv=.slice H hs.length hc at hhv;subst hhv;change wr.cell? _=some (.slice Al pl.parts.length cl) at s0;change wr.cell? _=some (.bool pl.rest) at s1;change wr.cell? _=some (.slice Ar pr.parts.length cr) at s2;change wr.cell? _=some (.bool pr.rest) at s3;change wr.cell? _=some (.slice H hs.length hc) at s4;have hX:Below wr.heap.size wr (wr.alloc (.cells #[.slice Al pl.parts.length cl,.bool pl.rest,.slice Ar pr.parts.length cr,.bool pr.rest,.slice H hs.length hc] 71)):=(Below.refl _ _).alloc (Nat.le_refl _) _;have HXP:=hd_ (HXI.out.below hX);have HX:=hd_ (z0r HBW.out hX);have HN:Hid (Blk (wr.alloc (.cells #[.slice Al pl.parts.length cl,.bool pl.rest,.slice Ar pr.parts.length cr,.bool pr.rest,.slice H hs.length hc] 71)) wr.heap.size 71 [.slice Al pl.parts.length cl,.bool pl.rest,.slice Ar pr.parts.length cr,.bool pr.rest,.slice H hs.length hc]):=hd_ (z0l wr _ _);have HLT:=hd_ hlt;clear hab hX;go_upto_region 4 with fail;generalize wr.alloc (.cells #[.slice Al pl.parts.length cl,.bool pl.rest,.slice Ar pr.parts.length cr,.bool pr.rest,.slice H hs.length hc] 71)=W4 at HX HN HXP ⊢;generalize wr.heap.size=g7 at HN ⊢;clear s0 s1 s2 s3 s4;obtain⟨x0,x1,x4⟩:=(⟨HN.out.cell 0,HN.out.cell 1,HN.out.cell 4⟩:W4.cell? ⟨g7,0,none⟩=some (.slice Al pl.parts.length cl)∧W4.cell? ⟨g7,1,none⟩=some (.bool pl.rest)∧W4.cell? ⟨g7,4,none⟩=some (.slice H hs.length hc));have HHA:=hd_ (znj pl hs Al H cl hc p W4 (HEV.out W4 HX.out) HXP.out.l HXP.out.h hz HXP.out.n);have HONE:Hid (zdx ⟨(pl,Al,cl),(pr,Ar,cr),.slice H hs.length hc,hs⟩ p=if zni pl hs p then zc7 pl pr p else none):=hd_ (by
    unfold zdx zni zc7;cases z8j pl p <;> cases zdu hs p <;> simp)
   have HSM:Hid (zni pl hs p=true→(zc7 pl pr p).isSome=true):=hd_ (by
    unfold zni zc7;cases z8j pl p <;> simp)
   generalize zni pl hs p=o at HHA HONE HSM;generalize zc7 pl pr p=q at HXF HONE HSM;go_wp2_with fail;refine HHA.out.mono ?_;rintro e w5 ⟨rfl,hb⟩;dsimp only;have HB:=hd_ (z0r HX.out hb);have HN5:=hd_ (HN.out.below hb HN.out.lt);clear hb x0 x1 x4 HHA HN;cases o with
   | false =>
    have HNX:=hd_ (HJ.out HONE.out);go_wp2_with fail;go_roundw
    case rel=>exact⟨k+1,by go_num,by omega,hd_ ⟨HB.out,HNX.out⟩⟩
    case measure=>simp [intOf];omega
   | true =>
    have HRR:Hid (r=q):=hd_ (by
     have h1:=HR1.out;rw[HONE.out] at h1;rw[h1];have h2:=HSM.out rfl;cases q with
     | none=>cases h2
     | some s=>rfl)
    have HFW:=hd_ (HXF.out w5 HB.out);obtain⟨x0,x1,x2,x3⟩:=(⟨HN5.out.cell 0,HN5.out.cell 1,HN5.out.cell 2,HN5.out.cell 3⟩:w5.cell? ⟨g7,0,none⟩=some (.slice Al pl.parts.length cl)∧w5.cell? ⟨g7,1,none⟩=some (.bool pl.rest)∧w5.cell? ⟨g7,2,none⟩=some (.slice Ar pr.parts.length cr)∧w5.cell? ⟨g7,3,none⟩=some (.bool pr.rest));go_wp2_with fail;refine HFW.out.mono ?_;rintro e w6 ⟨rfl,hb⟩;dsimp only;have HB6:=hd_ (z0r HB.out hb);clear hb x0 x1 x2 x3;go_wp2_with fail;go_ret2;exact⟨by rw[HRR.out];rfl,HB6.out⟩
  ·have hke:k=es.length:=by omega
   subst hke;have HR:=hd_ (HNO.out (fun j hj=>HI.out.2 j hj hj));have HB:=hd_ HI.out.1;have hge:¬((es.length:Int)<(es.length:Int)):=by omega
   go_wp2_with fail;go_ret2;exact⟨by rw[HR.out];rfl,HB.out⟩
section
variable {hs : List Hav} {pl : List Syn} {b : ByteArray → Bool} {r i : Nat}
def zpd (hs:List Hav)(pl:List Syn)(b:ByteArray→Bool)(x:Syn):Prop:=z3o x.kind=false→b x.path=false→x.dst≠z2l→∀ h∈hs,h.loc=x.dst→h.path≠x.path→¬ zer pl b h.path
structure zpe (hs:List Hav)(pl:List Syn)(r i:Nat)(b:ByteArray→Bool):Prop where
 sound:∀ p,b p=true→Bl hs pl p
 prog:∃ b0:ByteArray→Bool,(∀ p,b0 p=true→b p=true)∧((∀ x∈pl,zpd hs pl b0 x)∨zk1 b0 pl+r≤pl.length)∧(zk1 b pl+1≤zk1 b0 pl∨(b=b0∧∀ j (hj:j<pl.length),j<i→zpd hs pl b pl[j]))
theorem rd_init (hs:List Hav)(pl:List Syn):zpe hs pl 0 0 (fun _=>false):=
 ⟨fun p h=>(by cases h),fun _=>false,fun p h=>h,.inr (by rw[Nat.add_zero];exact List.length_filter_le ..),.inr ⟨rfl,fun j _ h=>by omega⟩⟩
theorem rd_no (h:zpe hs pl r i b)(hi:i<pl.length)(hc:zpd hs pl b pl[i]):zpe hs pl r (i+1) b:=by
 obtain⟨h1,b0,h2,h3,h4⟩:=h;refine⟨h1,b0,h2,h3,?_⟩;rcases h4 with h4 | ⟨h4,h5⟩
 ·exact .inl h4
 ·refine .inr ⟨h4,fun j hj hji=>?_⟩;by_cases e:j=i
  ·subst e;exact hc
  ·exact h5 j hj (by omega)
theorem rd_mark (h:zpe hs pl r i b)(hi:i<pl.length)(hk:z3o pl[i].kind=false)(hb:b pl[i].path=false)(hd:pl[i].dst≠z2l){a:Hav}(ha:a∈hs)(hl:a.loc=pl[i].dst)(hp:a.path≠pl[i].path)(hs1:zer pl b a.path):zpe hs pl r (i+1) (setB b pl[i].path):=by
 obtain⟨h1,b0,h2,h3,h4⟩:=h;have hm:=List.getElem_mem hi;refine⟨fun p hp'=>?_,b0,fun p hp'=>zju (h2 p hp'),h3,.inl ?_⟩
 ·rcases zjw hp' with rfl | e
  ·exact zet h1 hm hk hd ha hl hp hs1
  ·exact h1 p e
 ·have hf:=zk2 hm hk hb;rcases h4 with h4 | ⟨rfl,-⟩
  ·omega
  ·exact hf
theorem zpf (h:zpe hs pl r i b){b0:ByteArray→Bool}(h2:∀ p,b0 p=true→b p=true)(hc:∀ x∈pl,zpd hs pl b0 x):b=b0:=by
 have e:=zes (fun p hp=>h.sound p (h2 p hp)) hc;funext p
 rw[Bool.eq_iff_iff];refine⟨fun hp=>?_,h2 p⟩;rw[e];exact zej.2 (h.sound p hp)
theorem zpg (h:zpe hs pl r pl.length b):zpe hs pl (r+1) 0 b:=by
 have h':=h;obtain⟨h1,b0,h2,h3,h4⟩:=h;refine⟨h1,b,fun p hp=>hp,?_,.inr ⟨rfl,fun j _ h=>by omega⟩⟩
 rcases h4 with h4 | ⟨rfl,h5⟩
 ·rcases h3 with h3 | h3
  ·have:=zpf h' h2 h3;subst this;omega
  ·exact .inr (by omega)
 ·refine .inl fun x hx=>?_;obtain⟨j,hj,rfl⟩:=List.getElem_of_mem hx;exact h5 j hj hj
theorem rd_end (h:zpe hs pl pl.length 0 b):b=blB hs pl:=by
 have h':=h;obtain⟨h1,b0,h2,h3,h4⟩:=h;have hz:zk1 b pl=0→∀ x∈pl,zpd hs pl b x:=fun e x hx hk hb=>by
  unfold zk1 at e;have:=List.eq_nil_of_length_eq_zero e;rw[List.filter_eq_nil_iff] at this;have h6:=this x hx;rw[hk,hb] at h6;exact absurd rfl h6
 have h0:b=b0:=by
  rcases h4 with h4 | ⟨h4,-⟩
  ·rcases h3 with h3 | h3
   ·exact zpf h' h2 h3
   ·omega
  ·exact h4
 subst h0;rcases h3 with h3 | h3
 ·exact zes h1 h3
 ·exact zes h1 (hz (by omega))
def atR (hs:List Hav)(l:ByteArray):Option Hav:=hs.find? (fun h=>decide (h.loc=l))
def zph (P:List Syn)(p:ByteArray):Bool:=match z6f P p with | none=>true | some y=>z3o y.kind
def zpi (hs:List Hav)(P:List Syn)(x:Syn):Bool:=decide (x.dst≠z2l) && match atR hs x.dst with | none=>false | some h=>decide (h.path≠x.path) && zph P h.path
theorem zpj {p:ByteArray}:zph (zel b pl) p=true↔zer pl b p:=by
 unfold zph zer;rw[zep];cases e:z6f pl p with
 | none=>exact⟨fun _=>.inl rfl,fun _=>rfl⟩
 | some y =>
  show z3o (zek b y).kind=true↔_
  rw[zeo,(z61 e).2,Bool.or_eq_true];constructor
  ·rintro (h | h)
   ·exact .inr ⟨y,rfl,.inr h⟩
   ·exact .inr ⟨y,rfl,.inl h⟩
  ·rintro (h | ⟨z,h,h1⟩)
   ·cases h
   ·cases h
    exact h1.symm
theorem zpk {l:ByteArray}{a:Hav}(h:atR hs l=some a):a∈hs∧a.loc=l:=⟨List.mem_of_find?_eq_some h,by simpa using List.find?_some h⟩
theorem atR_of (h1:zf6 hs){a:Hav}(ha:a∈hs):∃ c,atR hs a.loc=some c∧c.path=a.path:=by
 cases e:atR hs a.loc with
 | none =>
  unfold atR at e;rw[List.find?_eq_none] at e;exact absurd (decide_eq_true rfl) (e a ha)
 | some c=>exact⟨c,rfl,h1.loc c (zpk e).1 a ha (zpk e).2⟩
theorem zpl (b:ByteArray→Bool)(hi:i<pl.length)(hi2:i<(zel b pl).length):(zel b pl)[i]=zek b pl[i]:=by
 show (pl.map (zek b))[i]'(by simpa [zel] using hi2)=_
 rw[List.getElem_map]
theorem rd_yes (h1:zf6 hs)(hsrt:z6d pl)(h:zpe hs pl r i b)(hi:i<pl.length)(hi2:i<(zel b pl).length)(hk:(zel b pl)[i].kind≠6)(ho:zpi hs (zel b pl) (zel b pl)[i]=true):
  ∃ b',zpe hs pl r (i+1) b'∧(zel b pl).set i (zjg 5 (zel b pl)[i])=zel b' pl:=by
 have em:=zpl b hi hi2;by_cases c:z3o pl[i].kind=false∧b pl[i].path=false
 ·have e2:zek b pl[i]=pl[i]:=by unfold zek;rw[c.2];rfl
  refine⟨setB b pl[i].path,?_,zkg hsrt b hi hi2⟩;rw[em,e2] at ho;unfold zpi at ho;rw[Bool.and_eq_true,decide_eq_true_eq] at ho;obtain⟨o1,o2⟩:=ho;cases e:atR hs pl[i].dst with
  | none=>rw[e] at o2;cases o2
  | some a =>
   rw[e] at o2;have o3:(decide (a.path≠pl[i].path) && zph (zel b pl) a.path)=true:=o2;rw[Bool.and_eq_true,decide_eq_true_eq] at o3;exact rd_mark h hi c.1 c.2 o1 (zpk e).1 (zpk e).2 o3.1 (zpj.1 o3.2)
 ·have hst:z3o (zel b pl)[i].kind=true:=by
   rw[em,zeo];cases e1:b pl[i].path with
   | true=>rfl
   | false =>
    cases e2:z3o pl[i].kind with
    | true=>rfl
    | false=>exact absurd ⟨e2,e1⟩ c
  have h5:(zel b pl)[i].kind=5:=by
   unfold z3o at hst;simp only[Bool.or_eq_true,beq_iff_eq] at hst
   exact hst.resolve_left hk
  refine⟨b,rd_no h hi (fun e1 e2=>absurd ⟨e1,e2⟩ c),?_⟩;have e3:zjg 5 (zel b pl)[i]=(zel b pl)[i]:=by
   show { (zel b pl)[i] with kind:=5 }=_
   conv=>rhs;rw[← (show ({ (zel b pl)[i] with kind:=(zel b pl)[i].kind }:Syn)=(zel b pl)[i] from rfl)]
   rw[h5]
  rw[e3,List.set_getElem_self]
theorem rd_not (h1:zf6 hs)(h:zpe hs pl r i b)(hi:i<pl.length)(hi2:i<(zel b pl).length)(hn:¬((zel b pl)[i].kind≠6∧zpi hs (zel b pl) (zel b pl)[i]=true)):zpe hs pl r (i+1) b:=by
 refine rd_no h hi fun c1 c2 c3 a ha e1 e2 hst=>hn ?_;have e3:zek b pl[i]=pl[i]:=by unfold zek;rw[c2];rfl
 rw[zpl b hi hi2,e3];refine⟨fun e=>?_,?_⟩
 ·rw[e] at c1;exact absurd c1 (by decide)
 ·obtain⟨c,h2,h3⟩:=atR_of h1 ha;rw[e1] at h2;unfold zpi;rw[h2,decide_eq_true c3,Bool.true_and];show (decide (c.path≠pl[i].path) && zph (zel b pl) c.path)=true
  rw[h3,decide_eq_true e2,Bool.true_and];exact zpj.2 hst
end
section
variable {hs ws : List Hav} {op dt : List ByteArray}
theorem zpm {α β:Type}{ka:α→ByteArray}{kb:β→ByteArray}{f:α→Option β}(hf:∀ a y,f a=some y→kb y=ka a):∀ {l:List α},z5x ka l→∀ p,z5y kb (l.filterMap f) p=(z5y ka l p).bind f
 | [],_,p=>rfl
 | a :: l,h,p=>by
  have ih:=zpm hf h.tail p;rw[z63];by_cases e:ka a=p
  ·rw[if_pos e];show _=f a
   have hno:z5y ka l p=none:=z62.2 fun c hc ec=>z5z (h.head c hc) (e.trans ec.symm);rw[hno] at ih;cases ef:f a with
   | none=>rw[List.filterMap_cons_none ef,ih];rfl
   | some y=>rw[List.filterMap_cons_some ef,z63,if_pos ((hf a y ef).trans e)]
  ·rw[if_neg e];cases ef:f a with
   | none=>rw[List.filterMap_cons_none ef,ih]
   | some y=>rw[List.filterMap_cons_some ef,z63,if_neg (fun e2=>e ((hf a y ef).symm.trans e2)),ih]
theorem zpn {α β:Type}{ka:α→ByteArray}{kb:β→ByteArray}{f:α→Option β}(hf:∀ a y,f a=some y→kb y=ka a){l:List α}(h:z5x ka l):z5x kb (l.filterMap f):=by
 refine List.pairwise_filterMap.2 (h.imp ?_);intro a c hac y hy z hz;rw[hf a y hy,hf c z hz];exact hac
structure zpo (hs ws:List Hav)(k:Nat)(al:List Hav):Prop where
 srt:z6c al
 mem:∀ x∈al,x∈hs∨x∈ws
 get:∀ p,z6e al p=(z6e hs p).or (z6e (ws.take k) p)
 len:al.length≤hs.length+k
theorem all_0 (h1:zf6 hs):zpo hs ws 0 hs:=⟨h1.srt,fun x hx=>.inl hx,fun p=>by rw[List.take_zero];exact (Option.or_none).symm,Nat.le_refl _⟩
theorem zpp {k:Nat}(hk:k<ws.length)(p:ByteArray):z6e (ws.take (k+1)) p=(z6e (ws.take k) p).or (if ws[k].path=p then some ws[k] else none):=by
 rw[List.take_succ_eq_append_getElem hk];show z5y Hav.path _ p=_
 rw[z64,z63];rfl
theorem all_had {k:Nat}{al:List Hav}(h2:zf6 ws)(h:zpo hs ws k al)(hk:k<ws.length){a:Hav}(e:z6e hs ws[k].path=some a):zpo hs ws (k+1) al:=by
 refine⟨h.srt,h.mem,fun p=>?_,by have:=h.len;omega⟩
 rw[h.get p,zpp hk p];by_cases c:ws[k].path=p
 ·subst c;rw[e];rfl
 ·rw[if_neg c,Option.or_none]
theorem all_put {k:Nat}{al:List Hav}(h1:zf6 hs)(h2:zf6 ws)(h:zpo hs ws k al)(hk:k<ws.length)(e:z6e hs ws[k].path=none):zpo hs ws (k+1) (zlc al ws[k]):=by
 have hm:=List.getElem_mem hk;have hv:∀ x∈al,z2s x.path=true:=fun x hx=>(h.mem x hx).elim (h1.valid x) (h2.valid x);obtain⟨i1,i2⟩:=zlj al ws[k] h.srt hv (h2.valid _ hm);refine⟨i1,fun x hx=>?_,fun p=>?_,by have:=zli al ws[k];have:=h.len;omega⟩
 ·rcases zlh _ _ _ hx with rfl | hx
  ·exact .inr hm
  ·exact h.mem x hx
 ·rw[i2 p,zpp hk p];by_cases c:p=ws[k].path
  ·subst c;rw[if_pos rfl,if_pos rfl,e];have hno:z6e (ws.take k) ws[k].path=none:=z62.2 fun c hc ec=>by
    obtain⟨j,hj,rfl⟩:=List.getElem_of_mem hc;rw[List.getElem_take] at ec;have hjk:j<k:=by rw[List.length_take] at hj;omega
    have:=List.pairwise_iff_getElem.1 h2.srt j k (by omega) hk hjk
    exact z5z this ec
   rw[hno];rfl
  ·rw[if_neg c,if_neg (fun e2=>c e2.symm),Option.or_none,h.get p]
def zpq (hs ws:List Hav)(op dt:List ByteArray)(a:Hav):Option Syn:=(z6j (z6e hs a.path) (z6e ws a.path)).map (zfd op dt)
theorem zpr {a:Hav}{y:Syn}(h:zpq hs ws op dt a=some y):y.path=a.path:=by
 unfold zpq at h;rw[Option.map_eq_some_iff] at h;obtain⟨x,h1,rfl⟩:=h;show x.path=_
 rcases zfi h1 with⟨c,e1,e2,rfl⟩ | ⟨c,e1,e2,rfl⟩ | ⟨c,d,e1,e2,-,rfl⟩
 ·exact (z61 e1).2
 ·exact (z61 e2).2
 ·exact (z61 e2).2
theorem zps (h1:zf6 hs)(h2:zf6 ws){al:List Hav}(h:zpo hs ws ws.length al):al.filterMap (zpq hs ws op dt)=zfe hs ws op dt:=by
 obtain⟨p1,p2⟩:=zfj (op:=op) (dt:=dt) h1 h2;refine z67 (zpn (fun a y=>zpr) h.srt) p1 fun p=>?_;rw[zpm (fun a y=>zpr) h.srt p];refine Eq.trans ?_ (p2 p).symm;have hg:=h.get p;rw[List.take_length] at hg;show (z6e al p).bind _=_
 cases e1:z6e hs p with
 | some a =>
  rw[e1] at hg;rw[hg];show zpq hs ws op dt a=_
  unfold zpq;rw[(z61 e1).2,e1]
 | none =>
  rw[e1] at hg;rw[hg];show (z6e ws p).bind _=_
  cases e2:z6e ws p with
  | none=>rfl
  | some a =>
   show zpq hs ws op dt a=_
   unfold zpq;rw[(z61 e2).2,e1,e2]
end
open Go.RowKit Go.ChangeShapes Go.WideShapes Go.Deep
section
variable {H : Type} {enc : TypeId × Value → H} {P : Program} {w : World} {spare : Nat → Bool} {held : Bool}
theorem zqp {w:World}{b:Nat}{x:TypeId×Nat}(h:w.shape? b=some x):b<w.heap.size:=by
 rcases Nat.lt_or_ge b w.heap.size with h1 | h1
 ·exact h1
 ·have:w.heap[b]? = none:=Array.getElem?_eq_none h1;unfold World.shape? at h
  rw[this] at h;cases h
theorem zqq {t e:TypeId}{r:Reach}{b0:Nat}{v:Value}{d:DataW H}{p:List MemPlace}(ht:P.underlying t=some (.slice e))(he:P.underlying e=some (.int .i64))(hc:P.cellsOf e=1)
  (hv:Value.okWide P w r b0 t v) (h:DataW.Trod enc P w 0 spare held t v d p):
  ∃(l:List Int) (A:Option Addr) (c:Nat),v=.slice A l.length c∧Row w 1 (.slice A l.length c) l.length (l.map fun(n:Int)=>.int .i64 n)∧∀ ad,A=some ad→ad.block<w.heap.size:=by
 obtain⟨a,n,c,rfl⟩:=okWide_slice ht hv;have hlt:∀ ad,a=some ad→ad.block<w.heap.size:=by
  rintro ad rfl;simp only[Value.okWide,ht,Cell.okWide,Cell.ok] at hv
  obtain⟨-,-,-,-,row,cells,hs,-⟩:=hv;exact zqp hs
 obtain⟨fuel,hf⟩:=h;rcases open_ints ht he hc hf with⟨hcs,_⟩ | ⟨x,l,c',zs,hcs,_,hl,hm,hz,_,hcell,hwz⟩
 ·simp [Value.cells] at hcs
  obtain⟨rfl,rfl,rfl⟩:=hcs;exact⟨[],none,0,rfl,Row.nil_ w 1,fun ad e=>by cases e⟩
 ·simp [Value.cells] at hcs
  obtain⟨rfl,rfl,rfl⟩:=hcs;have hzl:n≤zs.length:=by rw[hz];split <;> omega
  have hlen:(zs.take n).length=n:=by simp;omega
  refine⟨zs.take n,some x,c,by rw[hlen],?_,hlt⟩
  rw[hlen];refine⟨_,_,rfl,hl,hm,by simp;omega,fun h=>(by cases h),fun hn=>⟨x,rfl,hlt x rfl,fun j u hu=>?_⟩⟩
  have hj:j<n:=by
   have:=(List.getElem?_eq_some_iff.1 hu).1;simp at this;omega
  rw[hcell j (by omega),← hu]
  simp only[List.getElem?_map,List.getElem?_take,hj,if_true,List.getElem?_eq_getElem (show j<zs.length by omega),Option.map_some]
  simp only[List.getD_eq_getElem?_getD,List.getElem?_eq_getElem (show j<zs.length by omega),Option.getD_some]
end
theorem env_of {W:World}(h:W.ShapedOpen prog):Env W:=Tryz.laysM143.s1_3 W h
