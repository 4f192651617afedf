/- A part of the proof. -/
import Derived.Test.YtegeboijhifmcaaGreatDoorMgw21
import Derived.Test.YtegeboijhifmcaaGreatDoorMgw18
import Derived.Test.YtegeboijhifmcaaGreatDoorMgw22
set_option linter.unusedVariables false
set_option linter.unusedSimpArgs false
set_option maxHeartbeats 8000000
set_option maxRecDepth 100000
namespace Go.Proofs.YtegeboijhifmcaaGreatDoor
open Go.Proofs.Tryz
open Go.RowKit
theorem zdo (q:Pat)(A:Option Addr)(c b:Nat)(p:ByteArray)(w:World)(he:Env w)(hq:za9 w (.slice A q.parts.length c) q)(hp:w.cell? ⟨b,0,none⟩=some (.string p))(hz:p.size≤1000000):
  Calls prog 70 #[.agg #[.slice A q.parts.length c,.bool q.rest],.pointer (some ⟨b,0,none⟩)] w fun e w'=>e=.returned (.bool (z8e q p).isSome)∧Below w.heap.size w w':=by
 have hB:=z0l w [.slice A q.parts.length c,.bool q.rest] 97;have hA:Below w.heap.size w (w.alloc (.cells #[.slice A q.parts.length c,.bool q.rest] 97)):=(Below.refl _ _).alloc (Nat.le_refl _) _;have HM:=hd_ (fun X (hX:Below w.heap.size w X)=>zbk q p A c X (he.below hX) hz (hq.below hX).1 hq.small);have d2:(w.alloc (.cells #[.slice A q.parts.length c,.bool q.rest] 97)).cell? ⟨b,0,none⟩=some (.string p):=(hA.cell (block_lt_of_cell hp)).trans hp;clear he hq hp;go_enter func70,ntmps70;go_upto_region 1 with fail;generalize w.alloc (.cells #[.slice A q.parts.length c,.bool q.rest] 97)=W1 at hB hA d2 ⊢;have d0:W1.cell? ⟨w.heap.size,0,none⟩=some (.slice A q.parts.length c):=hB.cell 0;have d1:W1.cell? ⟨w.heap.size,1,none⟩=some (.bool q.rest):=hB.cell 1;have HC:=hd_ (HM.out W1 hA);have HA:=hd_ hA;clear hA hB HM;generalize z8e q p=o at HC ⊢;go_wp2_with fail;refine HC.out.mono ?_;rintro e w2 ⟨A',n,c',rfl,hb,-⟩;have HB:=hd_ (z0r HA.out hb);clear hb d0 d1 d2;go_wp2_with fail;go_ret;exact⟨rfl,HB.out⟩
def zdp (hs:List zd1)(p:ByteArray):Bool:=hs.any fun q=>(z8e q.1 p).isSome
theorem zdq (hs:List zd1)(H:Option Addr)(hc b:Nat)(p:ByteArray)(w:World)(he:Env w)(hh:zd2 w (.slice H hs.length hc) hs)(hp:w.cell? ⟨b,0,none⟩=some (.string p))(hz:p.size≤1000000)(hn:hs.length≤1000):
  Calls prog 106 #[.slice H hs.length hc,.func (.func 70) #[] #[.pointer (some ⟨b,0,none⟩)]] w fun e w'=>(∃ i:Int,e=.returned (.int .i64 i)∧decide (0≤i)=zdp hs p)∧Below w.heap.size w w':=by
 have HE:=hd_ he;have HH:=hd_ hh;have HP:=hd_ hp;have HNO:Hid (∀ k (hk:k<hs.length),(z8e hs[k].1 p).isSome=true→zdp hs p=true):=hd_ (fun k hk h=>List.any_eq_true.2 ⟨_,List.getElem_mem hk,h⟩);have HYE:Hid ((∀ k (hk:k<hs.length),(z8e hs[k].1 p).isSome=false)→zdp hs p=false):=hd_ (fun h=>by
  unfold zdp;rw[List.any_eq_false];intro q hq;obtain⟨k,hk,rfl⟩:=List.getElem_of_mem hq;rw[h k hk];decide)
 generalize zdp hs p=r at HNO HYE ⊢;clear he hh hp;go_enter func106,ntmps106;go_wp2_with fail;go_loopw [8] (fun i wr=>∃ k:Nat,i=.int .i64 k∧k≤hs.length∧Hid (Below w.heap.size w wr∧∀ j (hj:j<hs.length),j<k→(z8e hs[j].1 p).isSome=false)) (fun i _=>hs.length - (intOf i).toNat)
 case atStart=>exact⟨0,rfl,Nat.zero_le _,hd_ ⟨Below.refl _ _,fun j _ h=>by omega⟩⟩
 case round =>
  obtain⟨k,rfl,hk,HI⟩:=hrel;by_cases hlt:k<hs.length
  ·have HHX:=hd_ (HH.out.below HI.out.1);obtain⟨ad,rfl,hab,s0,s1⟩:=HHX.out.at_ hlt;have HPK:=hd_ (HHX.out.2 hs[k] (List.getElem_mem hlt));have HNK:=hd_ (HNO.out k hlt);have HJ:Hid ((z8e hs[k].1 p).isSome=false→∀ j (hj:j<hs.length),j<k+1→(z8e hs[j].1 p).isSome=false):=hd_ (fun h j hj hjk=>by
    by_cases e:j=k
    ·subst e;exact h
    ·exact HI.out.2 j hj (by omega))
   generalize hs[k]=q at s0 s1 HPK HNK HJ;obtain⟨q,Aq,cq⟩:=q;change wr.cell? _=some (.slice Aq q.parts.length cq) at s0;change wr.cell? _=some (.bool q.rest) at s1;have HC:=hd_ (zdo q Aq cq b p wr (HE.out.below HI.out.1) HPK.out ((HI.out.1.cell (block_lt_of_cell HP.out)).trans HP.out) hz);obtain⟨o,ho⟩:∃ o,(z8e q p).isSome=o:=⟨_,rfl⟩;rw[ho] at HC;have HO:=hd_ ho;have HLT:=hd_ hlt;clear hab ho;cases o with
   | true =>
    have HR:=hd_ (HNK.out HO.out);go_wp2_with fail;refine HC.out.mono ?_;rintro e w2 ⟨rfl,hb⟩;have HB:=hd_ (z0r HI.out.1 hb);clear hb s0 s1;go_wp2_with fail;go_ret;exact⟨⟨(k:Int),rfl,by rw[HR.out];exact decide_eq_true (by omega)⟩,HB.out⟩
   | false =>
    have HR:=hd_ (HJ.out HO.out);go_wp2_with fail;refine HC.out.mono ?_;rintro e w2 ⟨rfl,hb⟩;have HB:=hd_ (z0r HI.out.1 hb);clear hb s0 s1;go_wp2_with fail;go_roundw
    case rel=>exact⟨k+1,by go_num,by omega,hd_ ⟨HB.out,HR.out⟩⟩
    case measure=>simp [intOf];omega
  ·have hke:k=hs.length:=by omega
   subst hke;have HR:=hd_ (HYE.out (fun j hj=>HI.out.2 j hj hj));have HB:=hd_ HI.out.1;have hge:¬((hs.length:Int)<(hs.length:Int)):=by omega
   go_wp2_with fail;go_ret;exact⟨⟨-1,rfl,by rw[HR.out];decide⟩,HB.out⟩
theorem zdr (hs:List zd1)(H:Option Addr)(hc b:Nat)(p:ByteArray)(w:World)(he:Env w)(hh:zd2 w (.slice H hs.length hc) hs)(hp:w.cell? ⟨b,0,none⟩=some (.string p))(hz:p.size≤1000000)(hn:hs.length≤1000):
  Calls prog 69 #[.slice H hs.length hc,.func (.func 70) #[] #[.pointer (some ⟨b,0,none⟩)]] w fun e w'=>e=.returned (.bool (zdp hs p))∧Below w.heap.size w w':=by
 have HC:=hd_ (zdq hs H hc b p w he hh hp hz hn);clear he hh hp;generalize zdp hs p=r at HC ⊢;go_enter func69,ntmps69;go_wp2_with fail;refine HC.out.mono ?_;rintro e w2 ⟨⟨i,rfl,hi⟩,hb⟩;have HI:=hd_ hi;have HB:=hd_ hb;clear hi hb;go_wp2_with fail;go_ret;exact⟨by rw[← HI.out];rfl,HB.out⟩
def zds (x:zd8)(p:ByteArray):Option ByteArray:=match zc2 x.l.1 x.r.1 p with
 | none=>none
 | some s=>if zdp x.hs p then none else some s
def zdt (es:List zd8)(p:ByteArray):Option ByteArray:=es.findSome? (zds · p)
def zdu (es:List zd8)(p:ByteArray):Prop:=∀ x∈es,∀ caps,z8e x.l.1 p=some caps→zbv x.r.1 caps
theorem zdv {es:List zd8}{p:ByteArray}{k:Nat}(hk:k<es.length)(h0:∀ j (hj:j<es.length),j<k→zds es[j] p=none):zdt es p=(zds es[k] p).or (zdt (es.drop (k+1)) p):=by
 induction es generalizing k with
 | nil=>simp at hk
 | cons x es ih =>
  unfold zdt;rw[List.findSome?_cons];cases k with
  | zero =>
   simp only[List.getElem_cons_zero,Nat.zero_add,List.drop_succ_cons,List.drop_zero]
   cases zds x p <;> rfl
  | succ k =>
   have hx:zds x p=none:=h0 0 (by simp) (by omega)
   rw[hx];exact ih (by simpa using hk) fun j hj hjk=>h0 (j+1) (by simpa using hj) (by omega)
theorem zdw {es:List zd8}{p:ByteArray}(h0:∀ j (hj:j<es.length),zds es[j] p=none):zdt es p=none:=by
 unfold zdt;rw[List.findSome?_eq_none_iff];intro x hx;obtain⟨k,hk,rfl⟩:=List.getElem_of_mem hx;exact h0 k hk
theorem zdx (es:List zd8)(v:Value)(p:ByteArray)(w:World)(he:Env w)(hE:zdi w v es)(hM:zdj es)(hF:zdu es p)(hz:p.size≤1000000):
  Calls prog 42 #[v,.string p] w (zc3 w (zdt es p)):=by
 obtain⟨A,c,rfl,-⟩:=id hE.1;have hl32:=hM.len;have hA:Below w.heap.size w (w.alloc (.cells #[.string p] 9)):=(Below.refl _ _).alloc (Nat.le_refl _) _;have hS:=z0l w [.string p] 9;have HE:=hd_ (fun X (hX:Below w.heap.size w X)=>hE.below hX);have HEV:=hd_ (fun X (hX:Below w.heap.size w X)=>he.below hX);have HM:=hd_ hM;have HF:=hd_ hF;have HAT:=hd_ (fun k hk=>@zdv es p k hk);have HNO:=hd_ (@zdw es p);generalize zdt es p=r at HAT HNO ⊢;have HA:=hd_ hA;have HS:=hd_ hS;clear hE hM hF he hA hS;go_enter func42,ntmps42;go_upto_region 1 with fail;generalize w.alloc (.cells #[.string p] 9)=W1 at HA HS ⊢;go_wp2_with fail;go_loopw [12] (fun i wr=>∃ k:Nat,i=.int .i64 k∧k≤es.length∧Hid (Below W1.heap.size W1 wr∧∀ j (hj:j<es.length),j<k→zds es[j] p=none)) (fun i _=>es.length - (intOf i).toNat)
 case atStart=>exact⟨0,rfl,Nat.zero_le _,hd_ ⟨Below.refl _ _,fun j _ h=>by omega⟩⟩
 case round =>
  obtain⟨k,rfl,hk,HI⟩:=hrel;by_cases hlt:k<es.length
  ·have HBW:=hd_ (z0r HA.out HI.out.1);have HEX:=hd_ (HE.out wr HBW.out);obtain⟨ad,rfl,hab,s0,s1,s2,s3,s4⟩:=HEX.out.at_ hlt;have HXI:=hd_ (HEX.out.2 es[k] (List.getElem_mem hlt));have HXO:=hd_ (HM.out.ok es[k] (List.getElem_mem hlt));have HXF:=hd_ (HF.out es[k] (List.getElem_mem hlt));have HR1:=hd_ (HAT.out k hlt HI.out.2);have HJ:Hid (zds es[k] p=none→∀ j (hj:j<es.length),j<k+1→zds es[j] p=none):=hd_ (fun h j hj hjk=>by
    by_cases e:j=k
    ·subst e;exact h
    ·exact HI.out.2 j hj (by omega))
   generalize es[k]=x at s0 s1 s2 s3 s4 HXI HXO HXF HR1 HJ;obtain⟨H,hc,hhv⟩:=HXI.out.holes;obtain⟨⟨pl,Al,cl⟩,⟨pr,Ar,cr⟩,hv,hs⟩:=x;change hv=.slice H hs.length hc at hhv;subst hhv;change wr.cell? _=some (.slice Al pl.parts.length cl) at s0;change wr.cell? _=some (.bool pl.rest) at s1;change wr.cell? _=some (.slice Ar pr.parts.length cr) at s2;change wr.cell? _=some (.bool pr.rest) at s3;change wr.cell? _=some (.slice H hs.length hc) at s4;have hX:Below wr.heap.size wr (wr.alloc (.cells #[.slice Al pl.parts.length cl,.bool pl.rest,.slice Ar pr.parts.length cr,.bool pr.rest,.slice H hs.length hc] 100)):=(Below.refl _ _).alloc (Nat.le_refl _) _;have HXP:=hd_ (HXI.out.below hX);have HX:=hd_ (z0r HI.out.1 hX);have HN:Hid (Blk (wr.alloc (.cells #[.slice Al pl.parts.length cl,.bool pl.rest,.slice Ar pr.parts.length cr,.bool pr.rest,.slice H hs.length hc] 100)) wr.heap.size 100 [.slice Al pl.parts.length cl,.bool pl.rest,.slice Ar pr.parts.length cr,.bool pr.rest,.slice H hs.length hc]):=hd_ (z0l wr _ _);have HLT:=hd_ hlt;clear hab hX;go_upto_region 4 with fail;generalize wr.alloc (.cells #[.slice Al pl.parts.length cl,.bool pl.rest,.slice Ar pr.parts.length cr,.bool pr.rest,.slice H hs.length hc] 100)=W4 at HX HN HXP ⊢;generalize wr.heap.size=g7 at HN ⊢;clear s0 s1 s2 s3 s4;obtain⟨x0,x1,x2,x3,x4⟩:=(⟨HN.out.cell 0,HN.out.cell 1,HN.out.cell 2,HN.out.cell 3,HN.out.cell 4⟩:W4.cell? ⟨g7,0,none⟩=some (.slice Al pl.parts.length cl)∧W4.cell? ⟨g7,1,none⟩=some (.bool pl.rest)∧W4.cell? ⟨g7,2,none⟩=some (.slice Ar pr.parts.length cr)∧W4.cell? ⟨g7,3,none⟩=some (.bool pr.rest)∧W4.cell? ⟨g7,4,none⟩=some (.slice H hs.length hc));have p0:W4.cell? ⟨w.heap.size,0,none⟩=some (.string p):=(HS.out.below HX.out HS.out.lt).cell 0;have HRF:=hd_ (zc5 false pl pr p Al Ar cl cr W4 (HEV.out W4 (z0r HA.out HX.out)) hz HXP.out.l HXP.out.r HXO.out.rule HXF.out);have HONE:Hid (zds ⟨(pl,Al,cl),(pr,Ar,cr),.slice H hs.length hc,hs⟩ p=match zc2 pl pr p with | none=>none | some s=>if zdp hs p then none else some s):=hd_ rfl
   obtain⟨o,ho⟩:∃ o,zc2 pl pr p=o:=⟨_,rfl⟩;rw[ho] at HRF HONE;clear ho;cases o with
   | none =>
    have HNX:=hd_ (HJ.out HONE.out);go_wp2_with fail;refine HRF.out.mono ?_;rintro e w5 ⟨rfl,hb⟩;have HB:=hd_ (z0r HX.out hb);clear hb x0 x1 x2 x3 x4 p0;go_wp2_with fail;go_roundw
    case rel=>exact⟨k+1,by go_num,by omega,hd_ ⟨HB.out,HNX.out⟩⟩
    case measure=>simp [intOf];omega
   | some s =>
    have HCH:=hd_ (fun X (hX:Below W4.heap.size W4 X)=>zdr hs H hc w.heap.size p X (HEV.out X (z0r HA.out (z0r HX.out hX))) (HXP.out.h.below hX) ((HS.out.below (z0r HX.out hX) HS.out.lt).cell 0) hz HXP.out.n);go_wp2_with fail;refine HRF.out.mono ?_;rintro e w5 ⟨rfl,hb⟩;have HB:=hd_ (z0r HX.out hb);have HC5:=hd_ (HCH.out w5 hb);have x4':w5.cell? ⟨g7,4,none⟩=some (.slice H hs.length hc):=(HN.out.below hb HN.out.lt).cell 4;clear hb x0 x1 x2 x3 x4 p0 HCH;obtain⟨hb9,hh9⟩:∃ b,zdp hs p=b:=⟨_,rfl⟩;rw[hh9] at HC5 HONE;clear hh9;cases hb9 with
    | true =>
     have HNX:=hd_ (HJ.out HONE.out);go_wp2_with fail;refine HC5.out.mono ?_;rintro e w6 ⟨rfl,hb⟩;have HB6:=hd_ (z0r HB.out hb);clear hb x4';go_wp2_with fail;go_roundw
     case rel=>exact⟨k+1,by go_num,by omega,hd_ ⟨HB6.out,HNX.out⟩⟩
     case measure=>simp [intOf];omega
    | false =>
     have HRR:Hid (r=some s):=hd_ (by rw[HR1.out,HONE.out];rfl)
     go_wp2_with fail;refine HC5.out.mono ?_;rintro e w6 ⟨rfl,hb⟩;have HB6:=hd_ (z0r HB.out hb);clear hb x4';go_wp2_with fail;go_ret2;exact⟨by rw[HRR.out];rfl,z0r HA.out HB6.out⟩
  ·have hke:k=es.length:=by omega
   subst hke;have HR:=hd_ (HNO.out (fun j hj=>HI.out.2 j hj hj));have HB:=hd_ (z0r HA.out HI.out.1);have hge:¬((es.length:Int)<(es.length:Int)):=by omega
   go_wp2_with fail;go_ret2;exact⟨by rw[HR.out];rfl,HB.out⟩
theorem zgo {p:ByteArray}(h:p=knA∨p=knB):z2s p=true∧p.size≤200∧p.size≤140737488355328:=by
 rcases h with rfl | rfl
 ·exact⟨by decide,by decide,by decide⟩
 ·exact⟨by decide,by decide,by decide⟩
theorem knEvery (g bl be bn:Nat)(Ae:Option Addr)(ce:Nat)(w:World)(hk:Chk w g (.slice none 0 0) (.slice none 0 0) 1 ⟨#[]⟩ ⟨#[]⟩ (.slice Ae 2 ce) (.slice none 0 0) bl be bn)(hL:z7r w bl zgn)(hne:bl≠be)(hE:KnE w Ae ce){F:ByteArray→Option Edt}(hM:z7s w be F):
  Calls prog 114 #[.pointer (some ⟨g,0,none⟩)] w fun e w'=>e=.returned (.int .i64 0)∧w.grownBy w' (some be):=by
 obtain⟨-,-,-,k5,-,-,-,-⟩:=z4a hk;have hobj:=z2f.obj hM;have HE:=hd_ hE;have HK:=hd_ hk;have HL:=hd_ hL;have HM:=hd_ hM;clear hE hk hL hM;go_enter func114,ntmps114;go_wp2_with fail;go_loopw [3,13] (fun b i wr=>∃(k:Nat) (b0:ByteArray) (F:ByteArray→Option Edt),i=.int .i64 k∧k≤2∧b=.string b0∧b0.size≤200∧Hid ((k=0→b0=z2l)∧(k=1→b0=knA))∧w.grownBy wr (some be)∧z7s wr be F) (fun _ i _=>2 - (intOf i).toNat)
 case atStart=>exact⟨0,z2l,F,rfl,by omega,rfl,by decide,hd_ ⟨fun _=>rfl,fun e=>by cases e⟩,World.grownBy.refl _ _,HM.out⟩
 case round =>
  obtain⟨k,b0,G,rfl,hk,rfl,hb0,HB0,hg,hM⟩:=hrel;have hKr:=Blk.turn HK.out hobj hg;have hLr:=z2f.grown HL.out hg (by intro e;injection e with e;exact hne e)
  have hEr:KnE wr Ae ce:=Row.turn HE.out (by decide) hobj hg
  by_cases hlt:k<2
  ·obtain⟨ad,p,rfl,hab,⟨x0,x1,x2,x3,x4,x5,x6,x7,x8,x9,x10,x11⟩,hp0,hp1⟩:=hEr.at_ k hlt;have hpp:p=knA∨p=knB:=by
    rcases (by omega:k=0∨k=1) with h | h
    ·exact .inl (hp0 h)
    ·exact .inr (hp1 h)
   obtain⟨hv,h200,hxs⟩:=zgo hpp;have HST:Hid ((k+1=0→p=z2l)∧(k+1=1→p=knA)):=hd_ ⟨fun e=>by omega,fun e=>hp0 (by omega)⟩
   have hcase:b0=z2l∨(b0≠z2l∧z2u b0 p<0):=by
    rcases (by omega:k=0∨k=1) with h | h
    ·exact .inl (HB0.out.1 h)
    ·rw[HB0.out.2 h,hp1 h];exact .inr ⟨by decide,by decide⟩
   have hgx:=hg.trans (zay ((Below.refl wr.heap.size wr).alloc (Nat.le_refl _) (.cells #[.string p,.int .i64 1,.int .i64 1,.bool false,.bool false,.bool false,.int .u64 1,.int .i64 1,.int .i64 0,.string ⟨#[]⟩,.int .i64 0,.int .i64 0] 90)) _);have HVA:=hd_ (fun W=>zb0 p true hv W hxs);have hX:=z0l wr [.string p,.int .i64 1,.int .i64 1,.bool false,.bool false,.bool false,.int .u64 1,.int .i64 1,.int .i64 0,.string ⟨#[]⟩,.int .i64 0,.int .i64 0] 90;have hKx:=Blk.alloc hKr (.cells #[.string p,.int .i64 1,.int .i64 1,.bool false,.bool false,.bool false,.int .u64 1,.int .i64 1,.int .i64 0,.string ⟨#[]⟩,.int .i64 0,.int .i64 0] 90);have hLx:=z2f.alloc hLr (.cells #[.string p,.int .i64 1,.int .i64 1,.bool false,.bool false,.bool false,.int .u64 1,.int .i64 1,.int .i64 0,.string ⟨#[]⟩,.int .i64 0,.int .i64 0] 90);have hMx:=z2f.alloc hM (.cells #[.string p,.int .i64 1,.int .i64 1,.bool false,.bool false,.bool false,.int .u64 1,.int .i64 1,.int .i64 0,.string ⟨#[]⟩,.int .i64 0,.int .i64 0] 90);have qs:¬(200:Int)<(p.size:Int):=by omega
   have qs':¬ 200<p.size:=by omega
   have q2:decide ((k:Int)<2)=true:=by simp;omega
   have h200':=h200;clear hv hp0 hp1 hpp hKr hLr hEr hM HB0 h200;rcases hcase with hbe | ⟨hbe,hcp⟩
   ·have s1:=ze4 hbe;clear hbe;go_wp2_with fail;refine (HVA.out _).mono ?_;rintro e w1 ⟨rfl,rfl⟩;go_upto_region 9 with fail;clear s1 x0 x1 x2 x3 x4 x5 x6 x7 x8 x9 x10 x11;generalize wr.alloc (.cells #[.string p,.int .i64 1,.int .i64 1,.bool false,.bool false,.bool false,.int .u64 1,.int .i64 1,.int .i64 0,.string ⟨#[]⟩,.int .i64 0,.int .i64 0] 90)=W1 at hgx hX hKx hLx hMx ⊢;generalize wr.heap.size=g5 at hX ⊢;obtain⟨c0,c1,c2,c3,c4,c5,c6,c7,c8,c9,c10,c11⟩:=z7z hX;have HON:=hd_ (knOne p g bl be bn (some ad) ce _ hKx hLx);go_wp2_with fail;refine HON.out.mono ?_;rintro e w2 ⟨rfl,hb2⟩;have hX2:=hX.below hb2 hX.lt;have hg2:=hgx.trans (zay hb2 _);have hK2:=Blk.below hKx hb2 (Blk.lt hKx);have hM2:=z2f.below hMx hb2;obtain⟨w3,hup,hM3,hg3,hs3⟩:=z2f.update (w:=w2.drew) hM2 z7q underlying180 p (knE p);have hup':(Instr.mapUpdate 180 (.map (some be)) (.string p) (.agg #[.string p,.int .i64 1,.int .i64 1,.bool false,.bool false,.bool false,.int .u64 1,.int .i64 1,.int .i64 0,.string ⟨#[]⟩,.int .i64 0,.int .i64 0])).run prog w2.drew=.ok () w3:=hup;have hX3:=Blk.grown (w:=w2.drew) hX2 hg3 (by intro e;injection e with e;subst e;obtain⟨_,_,ho⟩:=z2f.obj hM2;unfold Blk at hX2;rw[ho] at hX2;cases hX2)
    have hgw3:w.grownBy w3 (some be):=(hg2.trans (zay (Below.refl _ _).drew _)).trans hg3;obtain⟨-,-,-,-,-,-,k8,-⟩:=z4a hK2;clear c0 c1 c2 c3 c4 c5 c6 c7 c8 c9 c10 c11;obtain⟨c0,c1,c2,c3,c4,c5,c6,c7,c8,c9,c10,c11⟩:=z7z hX2;clear hup;go_wp2_with fail;go_still_tail 7,(by kernel_rfl)
    change wpList _ _ _ _ _ w2.drew;clear c0 c1 c2 c3 c4 c5 c6 c7 c8 c9 c10 c11;obtain⟨c0,c1,c2,c3,c4,c5,c6,c7,c8,c9,c10,c11⟩:=z7z hX3;go_wp2_with fail;go_roundw
    case rel=>exact⟨k+1,p,_,by go_num,by omega,rfl,by omega,HST,hgw3,hM3⟩
    case measure=>simp [intOf];omega
   ·have s1:=ze5 hbe;have s2:=ze6 hbe;clear hbe;have HCP:=hd_ (z3m b0 p (wr.alloc (.cells #[.string p,.int .i64 1,.int .i64 1,.bool false,.bool false,.bool false,.int .u64 1,.int .i64 1,.int .i64 0,.string ⟨#[]⟩,.int .i64 0,.int .i64 0] 90)) (by omega) hxs)
    have qc:¬ 0≤z2u b0 p:=by omega
    go_wp2_with fail;refine (HVA.out _).mono ?_;rintro e w1 ⟨rfl,rfl⟩;go_wp2_with fail;refine HCP.out.mono ?_;rintro e w1 ⟨rfl,hq1⟩;have hb1:=hq1.below (World.heap (wr.alloc (.cells #[.string p,.int .i64 1,.int .i64 1,.bool false,.bool false,.bool false,.int .u64 1,.int .i64 1,.int .i64 0,.string ⟨#[]⟩,.int .i64 0,.int .i64 0] 90))).size;have hX:=hX.below hb1 hX.lt;have hKx:=Blk.below hKx hb1 (Blk.lt hKx);have hLx:=z2f.below hLx hb1;have hMx:=z2f.below hMx hb1;have hgx:=hgx.trans (zay hb1 _);clear hq1 hb1;go_upto_region 9 with fail;clear s1 s2 qc hcp x0 x1 x2 x3 x4 x5 x6 x7 x8 x9 x10 x11;have W1:=w1;generalize wr.heap.size=g5 at hX ⊢;obtain⟨c0,c1,c2,c3,c4,c5,c6,c7,c8,c9,c10,c11⟩:=z7z hX;have HON:=hd_ (knOne p g bl be bn (some ad) ce _ hKx hLx);go_wp2_with fail;refine HON.out.mono ?_;rintro e w2 ⟨rfl,hb2⟩;have hX2:=hX.below hb2 hX.lt;have hg2:=hgx.trans (zay hb2 _);have hK2:=Blk.below hKx hb2 (Blk.lt hKx);have hM2:=z2f.below hMx hb2;obtain⟨w3,hup,hM3,hg3,hs3⟩:=z2f.update (w:=w2.drew) hM2 z7q underlying180 p (knE p);have hup':(Instr.mapUpdate 180 (.map (some be)) (.string p) (.agg #[.string p,.int .i64 1,.int .i64 1,.bool false,.bool false,.bool false,.int .u64 1,.int .i64 1,.int .i64 0,.string ⟨#[]⟩,.int .i64 0,.int .i64 0])).run prog w2.drew=.ok () w3:=hup;have hX3:=Blk.grown (w:=w2.drew) hX2 hg3 (by intro e;injection e with e;subst e;obtain⟨_,_,ho⟩:=z2f.obj hM2;unfold Blk at hX2;rw[ho] at hX2;cases hX2)
    have hgw3:w.grownBy w3 (some be):=(hg2.trans (zay (Below.refl _ _).drew _)).trans hg3;obtain⟨-,-,-,-,-,-,k8,-⟩:=z4a hK2;clear c0 c1 c2 c3 c4 c5 c6 c7 c8 c9 c10 c11;obtain⟨c0,c1,c2,c3,c4,c5,c6,c7,c8,c9,c10,c11⟩:=z7z hX2;clear hup;go_wp2_with fail;go_still_tail 7,(by kernel_rfl)
    change wpList _ _ _ _ _ w2.drew;clear c0 c1 c2 c3 c4 c5 c6 c7 c8 c9 c10 c11;obtain⟨c0,c1,c2,c3,c4,c5,c6,c7,c8,c9,c10,c11⟩:=z7z hX3;go_wp2_with fail;go_roundw
    case rel=>exact⟨k+1,p,_,by go_num,by omega,rfl,by omega,HST,hgw3,hM3⟩
    case measure=>simp [intOf];omega
  ·have q2:decide ((k:Int)<2)=false:=by simp;omega
   go_wp2_with fail;go_ret;exact⟨rfl,hg⟩
theorem znt (b:Pat)(hs:List zd1)(A H:Option Addr)(a c:Nat)(w:World)(hb:za9 w (.slice A b.parts.length a) b)(hh:zd2 w (.slice H hs.length c) hs)(hl:hs.length≤1000000):
  Calls prog 136 #[.agg #[.slice A b.parts.length a,.bool b.rest,.slice H hs.length c]] w fun e w'=>e=.returned (.int .i64 (zd3 b hs))∧Below w.heap.size w w':=by
 have hB:=z0l w [.slice A b.parts.length a,.bool b.rest,.slice H hs.length c] 115;have hA:Below w.heap.size w (w.alloc (.cells #[.slice A b.parts.length a,.bool b.rest,.slice H hs.length c] 115)):=(Below.refl _ _).alloc (Nat.le_refl _) _;have HC:=hd_ (fun X (hX:Below w.heap.size w X)=>zca b A a X (hb.below hX).1 hb.small);have HH:=hd_ hh;have HN1:=hd_ (@zd4 b hs);have HN2:=hd_ (fun k=>@zd5 b hs k);have HN3:=hd_ (@zd6 b hs);clear hb hh;go_enter func136,ntmps136;go_upto_region 1 with fail;generalize w.alloc (.cells #[.slice A b.parts.length a,.bool b.rest,.slice H hs.length c] 115)=W1 at hA hB ⊢;obtain⟨d0,d1⟩:=(⟨hB.cell 0,hB.cell 1⟩:W1.cell? ⟨w.heap.size,0,none⟩=some (.slice A b.parts.length a)∧W1.cell? ⟨w.heap.size,1,none⟩=some (.bool b.rest));have HB:=hd_ hB;have HA:=hd_ hA;have HC1:=hd_ (HC.out W1 hA);clear hA hB HC;obtain⟨pe,hpe⟩:∃ pe,z7e b=pe:=⟨_,rfl⟩;have HPE:=hd_ hpe;rw[hpe] at HC1;clear hpe;by_cases h0:pe=0
 case neg =>
  have q:(pe != 0)=true:=by simpa using h0
  have HR:=hd_ (HN1.out (by rw[HPE.out];exact h0))
  clear h0;go_wp2_with fail;refine HC1.out.mono ?_;rintro e w2 ⟨rfl,hb⟩;have HB2:=hd_ (z0r HA.out hb);clear hb d0 d1;go_wp2_with fail;go_ret;exact⟨z7j HR.out.symm,HB2.out⟩
 subst h0;go_wp2_with fail;refine HC1.out.mono ?_;rintro e w2 ⟨rfl,hb⟩;have HA:=hd_ (z0r HA.out hb);have HB:=hd_ (HB.out.below hb HB.out.lt);clear hb d0 d1 HC1;have d2:w2.cell? ⟨w.heap.size,2,none⟩=some (.slice H hs.length c):=HB.out.cell 2;go_wp2_with fail;go_loopw [12] (fun i wr=>∃ k:Nat,i=.int .i64 k∧k≤hs.length∧Hid ((∀ j (hj:j<hs.length),j<k→z7e hs[j].1=0)∧Below w2.heap.size w2 wr)) (fun i _=>hs.length - (intOf i).toNat)
 case atStart=>exact⟨0,rfl,Nat.zero_le _,hd_ ⟨fun j _ h=>by omega,Below.refl _ _⟩⟩
 case round =>
  obtain⟨k,rfl,hk,HI⟩:=hrel;clear d2;by_cases hlt:k<hs.length
  ·have HHX:=hd_ (HH.out.below (z0r HA.out HI.out.2));obtain⟨ad,rfl,hab,s0,s1⟩:=HHX.out.at_ hlt;have HPK:=hd_ (HHX.out.2 hs[k] (List.getElem_mem hlt));have HNO:=hd_ (HN2.out k HPE.out hlt);have HYE:Hid (z7e hs[k].1=0→∀ j (hj:j<hs.length),j<k+1→z7e hs[j].1=0):=hd_ (fun h j hj hjk=>by
    by_cases e:j=k
    ·subst e;exact h
    ·exact HI.out.1 j hj (by omega))
   generalize hs[k]=q at s0 s1 HPK HNO HYE;obtain⟨q,Aq,cq⟩:=q;change wr.cell? _=some (.slice Aq q.parts.length cq) at s0;change wr.cell? _=some (.bool q.rest) at s1;have hX:Below w2.heap.size w2 (wr.alloc (.cells #[.slice Aq q.parts.length cq,.bool q.rest] 97)):=HI.out.2.alloc HI.out.2.size _;have hbq:Below wr.heap.size wr (wr.alloc (.cells #[.slice Aq q.parts.length cq,.bool q.rest] 97)):=(Below.refl _ _).alloc (Nat.le_refl _) _;have HCQ:=hd_ (zca q Aq cq (wr.alloc (.cells #[.slice Aq q.parts.length cq,.bool q.rest] 97)) (HPK.out.below hbq).1 HPK.out.small);have HX:=hd_ hX;clear hab hX hbq;obtain⟨qe,hqe⟩:∃ qe,z7e q=qe:=⟨_,rfl⟩;have HQE:=hd_ hqe;rw[hqe] at HCQ;clear hqe;have HLT:=hd_ hlt;by_cases h1:qe=0
   ·subst h1;have HN:=hd_ (HYE.out HQE.out);go_wp2_with fail;refine HCQ.out.mono ?_;rintro e w4 ⟨rfl,hb⟩;have HB4:=hd_ (z0r HX.out hb);clear hb s0 s1;go_wp2_with fail;go_roundw
    case rel=>exact⟨k+1,by go_num,by omega,hd_ ⟨HN.out,HB4.out⟩⟩
    case measure=>simp [intOf];omega
   ·have hq:(qe != 0)=true:=by simpa using h1
    have HR:=hd_ (HNO.out (by show z7e q≠0;rw[HQE.out];exact h1))
    clear h1;go_wp2_with fail;refine HCQ.out.mono ?_;rintro e w4 ⟨rfl,hb⟩;have HB4:=hd_ (z0r HA.out (z0r HX.out hb));clear hb s0 s1;go_wp2_with fail;go_ret;exact⟨z7j HR.out.symm,HB4.out⟩
  ·have hke:k=hs.length:=by omega
   subst hke;have HE:=hd_ (HN3.out HPE.out (fun j hj=>HI.out.1 j hj hj));have HBE:=hd_ (z0r HA.out HI.out.2);have d2:wr.cell? ⟨w.heap.size,2,none⟩=some (.slice H hs.length c):=(HB.out.below HI.out.2 HB.out.lt).cell 2;have hge:¬((hs.length:Int)<(hs.length:Int)):=by omega
   by_cases h6:64<hs.length
   ·have q6:decide ((64:Int)<(hs.length:Int))=true:=by simp;omega
    have q7:(64:Int)<(hs.length:Int):=by omega
    have HR:=hd_ (HE.out.trans (if_pos h6));clear h6;go_wp2_with fail;go_ret;exact⟨z7j HR.out.symm,HBE.out⟩
   ·have q6:decide ((64:Int)<(hs.length:Int))=false:=by simp;omega
    have q7:¬(64:Int)<(hs.length:Int):=by omega
    have HR:=hd_ (HE.out.trans (if_neg h6));clear h6;go_wp2_with fail;go_ret;exact⟨z7j HR.out.symm,HBE.out⟩
theorem znu (A B:Option Addr)(n m a b:Nat)(x y:Bool)(h0:Value)(w:World):Calls prog 135 #[.agg #[(.slice A n a),(.bool x),(.slice B m b),(.bool y),h0]] w fun e w'=>e=.returned (.agg #[.bool false,(.slice A n a),(.bool x),(.slice B m b),(.bool y)])∧Below w.heap.size w w':=by
 have hB:=z0l w [(.slice A n a),(.bool x),(.slice B m b),(.bool y),h0] 100;have hA:Below w.heap.size w (w.alloc (.cells #[(.slice A n a),(.bool x),(.slice B m b),(.bool y),h0] 100)):=(Below.refl _ _).alloc (Nat.le_refl _) _;go_enter func135,ntmps135;go_upto_region 1 with fail;have hZ:=z0l (w.alloc (.cells #[(.slice A n a),(.bool x),(.slice B m b),(.bool y),h0] 100)) [.bool false,.slice none 0 0,.bool false,.slice none 0 0,.bool false] 119;rw[World.size_alloc] at hZ;have hB1:=hB.alloc (.cells #[.bool false,.slice none 0 0,.bool false,.slice none 0 0,.bool false] 119);have hA1:=hA.alloc (by simp:w.heap.size≤_) (.cells #[.bool false,.slice none 0 0,.bool false,.slice none 0 0,.bool false] 119)
 generalize (w.alloc (.cells #[(.slice A n a),(.bool x),(.slice B m b),(.bool y),h0] 100)).alloc (.cells #[.bool false,.slice none 0 0,.bool false,.slice none 0 0,.bool false] 119)=W1 at hZ hB1 hA1 ⊢;obtain⟨d0,d1,d2,d3⟩:=(⟨hB1.cell 0,hB1.cell 1,hB1.cell 2,hB1.cell 3⟩:W1.cell? ⟨w.heap.size,0,none⟩=some (.slice A n a)∧W1.cell? ⟨w.heap.size,1,none⟩=some (.bool x)∧W1.cell? ⟨w.heap.size,2,none⟩=some (.slice B m b)∧W1.cell? ⟨w.heap.size,3,none⟩=some (.bool y));obtain⟨z0,z1,z2,z3,z4⟩:=(⟨hZ.cell 0,hZ.cell 1,hZ.cell 2,hZ.cell 3,hZ.cell 4⟩:W1.cell? ⟨w.heap.size+1,0,none⟩=some (.bool false)∧W1.cell? ⟨w.heap.size+1,1,none⟩=some (.slice none 0 0)∧W1.cell? ⟨w.heap.size+1,2,none⟩=some (.bool false)∧W1.cell? ⟨w.heap.size+1,3,none⟩=some (.slice none 0 0)∧W1.cell? ⟨w.heap.size+1,4,none⟩=some (.bool false));obtain⟨y0,y1,y2,y3,y4⟩:=(⟨hZ.frozen 0,hZ.frozen 1,hZ.frozen 2,hZ.frozen 3,hZ.frozen 4⟩:W1.frozen? ⟨w.heap.size+1,0,none⟩=false∧W1.frozen? ⟨w.heap.size+1,1,none⟩=false∧W1.frozen? ⟨w.heap.size+1,2,none⟩=false∧W1.frozen? ⟨w.heap.size+1,3,none⟩=false∧W1.frozen? ⟨w.heap.size+1,4,none⟩=false);go_wp2_with fail;have hE:=((((hZ.set_ 0 (.bool false)).set_ 1 (.slice A n a)).set_ 2 (.bool x)).set_ 3 (.slice B m b)).set_ 4 (.bool y);have hb:=((((hA1.setCell (p:=⟨w.heap.size+1,0,none⟩) (by simp) (.bool false)).setCell (p:=⟨w.heap.size+1,1,none⟩) (by simp) (.slice A n a)).setCell (p:=⟨w.heap.size+1,2,none⟩) (by simp) (.bool x)).setCell (p:=⟨w.heap.size+1,3,none⟩) (by simp) (.slice B m b)).setCell (p:=⟨w.heap.size+1,4,none⟩) (by simp) (.bool y)
 generalize ((((W1.setCell ⟨w.heap.size+1,0,none⟩ (.bool false)).setCell ⟨w.heap.size+1,1,none⟩ (.slice A n a)).setCell ⟨w.heap.size+1,2,none⟩ (.bool x)).setCell ⟨w.heap.size+1,3,none⟩ (.slice B m b)).setCell ⟨w.heap.size+1,4,none⟩ (.bool y)=W3 at hE hb ⊢;have e0:=hE.cell 0;have e1:=hE.cell 1;have e2:=hE.cell 2;have e3:=hE.cell 3;have e4:=hE.cell 4;exact bodyPost_ret (v:=.agg #[.bool false,.slice A n a,.bool x,.slice B m b,.bool y]) (by simp [results,results135,go_sem,e0,e1,e2,e3,e4]) rfl ⟨rfl,hb⟩
theorem znv (A H:Option Addr)(n a k c:Nat)(x y:Bool)(r0:Value)(w:World):Calls prog 137 #[.agg #[.slice A n a,.bool x,r0,.bool y,.slice H k c]] w fun e w'=>e=.returned (.agg #[.slice A n a,.bool x,.slice H k c])∧Below w.heap.size w w':=by
 have hB:=z0l w [.slice A n a,.bool x,r0,.bool y,.slice H k c] 100;have hA:Below w.heap.size w (w.alloc (.cells #[.slice A n a,.bool x,r0,.bool y,.slice H k c] 100)):=(Below.refl _ _).alloc (Nat.le_refl _) _;go_enter func137,ntmps137;go_upto_region 1 with fail;have hZ:=z0l (w.alloc (.cells #[.slice A n a,.bool x,r0,.bool y,.slice H k c] 100)) [.slice none 0 0,.bool false,.slice none 0 0] 115;rw[World.size_alloc] at hZ;have hB1:=hB.alloc (.cells #[.slice none 0 0,.bool false,.slice none 0 0] 115);have hA1:=hA.alloc (by simp:w.heap.size≤_) (.cells #[.slice none 0 0,.bool false,.slice none 0 0] 115)
 generalize (w.alloc (.cells #[.slice A n a,.bool x,r0,.bool y,.slice H k c] 100)).alloc (.cells #[.slice none 0 0,.bool false,.slice none 0 0] 115)=W1 at hZ hB1 hA1 ⊢;obtain⟨d0,d1,d4⟩:=(⟨hB1.cell 0,hB1.cell 1,hB1.cell 4⟩:W1.cell? ⟨w.heap.size,0,none⟩=some (.slice A n a)∧W1.cell? ⟨w.heap.size,1,none⟩=some (.bool x)∧W1.cell? ⟨w.heap.size,4,none⟩=some (.slice H k c));obtain⟨z0,z1,z2⟩:=(⟨hZ.cell 0,hZ.cell 1,hZ.cell 2⟩:W1.cell? ⟨w.heap.size+1,0,none⟩=some (.slice none 0 0)∧W1.cell? ⟨w.heap.size+1,1,none⟩=some (.bool false)∧W1.cell? ⟨w.heap.size+1,2,none⟩=some (.slice none 0 0));obtain⟨y0,y1,y2⟩:=(⟨hZ.frozen 0,hZ.frozen 1,hZ.frozen 2⟩:W1.frozen? ⟨w.heap.size+1,0,none⟩=false∧W1.frozen? ⟨w.heap.size+1,1,none⟩=false∧W1.frozen? ⟨w.heap.size+1,2,none⟩=false);go_wp2_with fail;have hE:=((hZ.set_ 0 (.slice A n a)).set_ 1 (.bool x)).set_ 2 (.slice H k c);have hb:=((hA1.setCell (p:=⟨w.heap.size+1,0,none⟩) (by simp) (.slice A n a)).setCell (p:=⟨w.heap.size+1,1,none⟩) (by simp) (.bool x)).setCell (p:=⟨w.heap.size+1,2,none⟩) (by simp) (.slice H k c)
 generalize ((W1.setCell ⟨w.heap.size+1,0,none⟩ (.slice A n a)).setCell ⟨w.heap.size+1,1,none⟩ (.bool x)).setCell ⟨w.heap.size+1,2,none⟩ (.slice H k c)=W3 at hE hb ⊢;have e0:=hE.cell 0;have e1:=hE.cell 1;have e2:=hE.cell 2;exact bodyPost_ret (v:=.agg #[.slice A n a,.bool x,.slice H k c]) (by simp [results,results137,go_sem,e0,e1,e2]) rfl ⟨rfl,hb⟩
def zo3 (b:Pat)(hs:List zd1)(p:ByteArray):Bool:=(z8e b p).isSome && !zdp hs p
theorem zo4 (b:Pat)(hs:List zd1)(A H:Option Addr)(a hc:Nat)(p:ByteArray)(w:World)(he:Env w)(hb:za9 w (.slice A b.parts.length a) b)(hh:zd2 w (.slice H hs.length hc) hs)(hz:p.size≤1000000)(hn:hs.length≤1000):
  Calls prog 187 #[.agg #[.slice A b.parts.length a,.bool b.rest,.slice H hs.length hc],.string p] w fun e w'=>e=.returned (.bool (zo3 b hs p))∧Below w.heap.size w w':=by
 have hB:=z0l w [.slice A b.parts.length a,.bool b.rest,.slice H hs.length hc] 115;have hA:Below w.heap.size w (w.alloc (.cells #[.slice A b.parts.length a,.bool b.rest,.slice H hs.length hc] 115)):=(Below.refl _ _).alloc (Nat.le_refl _) _;have HM:=hd_ (fun X (hX:Below w.heap.size w X)=>zcd b p A a X (he.below hX) hz (hb.below hX).1 hb.small);have HMQ:=hd_ (fun(q:Pat) (Q:Option Addr) (c:Nat) X (hX:Below w.heap.size w X) (hq:za9 X (.slice Q q.parts.length c) q)=>zcd q p Q c X (he.below hX) hz hq.1 hq.small);have HNO:Hid (∀ k (hk:k<hs.length),(z8e hs[k].1 p).isSome=true→zdp hs p=true):=hd_ (fun k hk h=>List.any_eq_true.2 ⟨_,List.getElem_mem hk,h⟩);have HYE:Hid ((∀ k (hk:k<hs.length),(z8e hs[k].1 p).isSome=false)→zdp hs p=false):=hd_ (fun h=>by
  unfold zdp;rw[List.any_eq_false];intro q hq;obtain⟨k,hk,rfl⟩:=List.getElem_of_mem hq;rw[h k hk];decide)
 have HHB:Hid (zo3 b hs p=((z8e b p).isSome && !zdp hs p)):=hd_ rfl;generalize zdp hs p=r at HNO HYE HHB;have HH:=hd_ hh;clear he hb hh;go_enter func187,ntmps187;go_upto_region 1 with fail;generalize w.alloc (.cells #[.slice A b.parts.length a,.bool b.rest,.slice H hs.length hc] 115)=W1 at hA hB ⊢;obtain⟨d0,d1⟩:=(⟨hB.cell 0,hB.cell 1⟩:W1.cell? ⟨w.heap.size,0,none⟩=some (.slice A b.parts.length a)∧W1.cell? ⟨w.heap.size,1,none⟩=some (.bool b.rest));have HB:=hd_ hB;have HA:=hd_ hA;have HC1:=hd_ (HM.out W1 hA);clear hA hB HM;go_wp2_with fail;refine HC1.out.mono ?_;rintro e w2 ⟨A',n,c',rfl,hb2,-⟩;dsimp only;have HB2:=hd_ (z0r HA.out hb2);have HX2:=hd_ (HB.out.below hb2 HB.out.lt);clear hb2 d0 d1 HC1;generalize (z8e b p).isSome=o at HHB ⊢;cases o with
 | false =>
  have HF:Hid (zo3 b hs p=false):=hd_ (by rw[HHB.out];rfl)
  go_wp2_with fail;go_ret;exact⟨z0w HF.out.symm,HB2.out⟩
 | true =>
  have HF:Hid (zo3 b hs p=!r):=hd_ (by rw[HHB.out];rfl)
  have d2:w2.cell? ⟨w.heap.size,2,none⟩=some (.slice H hs.length hc):=HX2.out.cell 2;go_wp2_with fail;clear d2;go_loopw [23] (fun i wr=>∃ k:Nat,i=.int .i64 k∧k≤hs.length∧Hid ((∀ j (hj:j<hs.length),j<k→(z8e hs[j].1 p).isSome=false)∧Below w2.heap.size w2 wr)) (fun i _=>hs.length - (intOf i).toNat)
  case atStart=>exact⟨0,rfl,Nat.zero_le _,hd_ ⟨fun j _ h=>by omega,Below.refl _ _⟩⟩
  case round =>
   obtain⟨k,rfl,hk,HI⟩:=hrel;by_cases hlt:k<hs.length
   ·have HHX:=hd_ (HH.out.below (z0r HB2.out HI.out.2));obtain⟨ad,rfl,hab,s0,s1⟩:=HHX.out.at_ hlt;have HPK:=hd_ (HHX.out.2 hs[k] (List.getElem_mem hlt));have HY:=hd_ (HNO.out k hlt);have HN:Hid ((z8e hs[k].1 p).isSome=false→∀ j (hj:j<hs.length),j<k+1→(z8e hs[j].1 p).isSome=false):=hd_ (fun h j hj hjk=>by
     by_cases e:j=k
     ·subst e;exact h
     ·exact HI.out.1 j hj (by omega))
    have HBI:=hd_ HI.out.2;have HLT:=hd_ hlt;generalize hs[k]=q at s0 s1 HPK HY HN;obtain⟨q,Aq,cq⟩:=q;change wr.cell? _=some (.slice Aq q.parts.length cq) at s0;change wr.cell? _=some (.bool q.rest) at s1;have hX:Below wr.heap.size wr (wr.alloc (.cells #[.slice Aq q.parts.length cq,.bool q.rest] 97)):=(Below.refl _ _).alloc (Nat.le_refl _) _;have HBX:=hd_ (z0r HBI.out hX);have HCQ:=hd_ (HMQ.out q Aq cq _ (z0r HB2.out HBX.out) (HPK.out.below hX));clear hab hX HI;dsimp only at HY HN
    go_wp2_with fail;refine HCQ.out.mono ?_;rintro e w4 ⟨A4,n4,c4,rfl,hb4,-⟩;dsimp only;have HB4:=hd_ (z0r HBX.out hb4);clear hb4 s0 s1;generalize (z8e q p).isSome=oq at HY HN ⊢;cases oq with
    | false =>
     have HN2:=hd_ (HN.out rfl);go_wp2_with fail;go_roundw
     case rel=>exact⟨k+1,by go_num,by have:=HLT.out;omega,hd_ ⟨HN2.out,HB4.out⟩⟩
     case measure=>have:=HLT.out;simp [intOf];omega
    | true =>
     have HR:=hd_ (HY.out rfl);have HB5:=hd_ (z0r HB2.out HB4.out);go_wp2_with fail;go_ret;exact⟨z0w (by rw[HF.out,HR.out];rfl),HB5.out⟩
   ·have hke:k=hs.length:=by omega
    have HR:=hd_ (HYE.out (fun j hj=>HI.out.1 j hj (by omega)))
    have HB5:=hd_ (z0r HB2.out HI.out.2);clear HI;subst hke;go_wp2_with fail;go_ret;exact⟨z0w (by rw[HF.out,HR.out];rfl),HB5.out⟩
theorem rBy_ok (es:List zd8)(v:Value)(p:ByteArray)(w:World)(he:Env w)(hE:zdi w v es)(hl32:es.length≤32)(hz:p.size≤1000000)
  (hF:∀ x∈es,∀ X,Below w.heap.size w X→Calls prog 188 #[.agg #[.bool false,x.l.v,.bool x.l.1.rest,x.r.v,.bool x.r.1.rest],.string p] X (zc3 X (zc2 x.l.1 x.r.1 p))):
  Calls prog 140 #[v,.string p] w (zc3 w (zdt es p)):=by
 obtain⟨A,c,rfl,-⟩:=id hE.1;have HE:=hd_ (fun X (hX:Below w.heap.size w X)=>hE.below hX);have HEV:=hd_ (fun X (hX:Below w.heap.size w X)=>he.below hX);have HF:=hd_ hF;have HAT:=hd_ (fun k hk=>@zdv es p k hk);have HNO:=hd_ (@zdw es p);generalize zdt es p=r at HAT HNO ⊢;clear hE he hF;go_enter func140,ntmps140;go_wp2_with fail;go_loopw [10] (fun i wr=>∃ k:Nat,i=.int .i64 k∧k≤es.length∧Hid (Below w.heap.size w wr∧∀ j (hj:j<es.length),j<k→zds es[j] p=none)) (fun i _=>es.length - (intOf i).toNat)
 case atStart=>exact⟨0,rfl,Nat.zero_le _,hd_ ⟨Below.refl _ _,fun j _ h=>by omega⟩⟩
 case round =>
  obtain⟨k,rfl,hk,HI⟩:=hrel;by_cases hlt:k<es.length
  ·have HBW:=hd_ HI.out.1;have HEX:=hd_ (HE.out wr HBW.out);obtain⟨ad,rfl,hab,s0,s1,s2,s3,s4⟩:=HEX.out.at_ hlt;have HXI:=hd_ (HEX.out.2 es[k] (List.getElem_mem hlt));have HXF:=hd_ (HF.out es[k] (List.getElem_mem hlt));have HR1:=hd_ (HAT.out k hlt HI.out.2);have HJ:Hid (zds es[k] p=none→∀ j (hj:j<es.length),j<k+1→zds es[j] p=none):=hd_ (fun h j hj hjk=>by
    by_cases e:j=k
    ·subst e;exact h
    ·exact HI.out.2 j hj (by omega))
   generalize es[k]=x at s0 s1 s2 s3 s4 HXI HXF HR1 HJ;obtain⟨H,hc,hhv⟩:=HXI.out.holes;obtain⟨⟨pl,Al,cl⟩,⟨pr,Ar,cr⟩,hv,hs⟩:=x;change hv=.slice H hs.length hc at hhv;subst hhv;change wr.cell? _=some (.slice Al pl.parts.length cl) at s0;change wr.cell? _=some (.bool pl.rest) at s1;change wr.cell? _=some (.slice Ar pr.parts.length cr) at s2;change wr.cell? _=some (.bool pr.rest) at s3;change wr.cell? _=some (.slice H hs.length hc) at s4;have hX:Below wr.heap.size wr (wr.alloc (.cells #[.slice Al pl.parts.length cl,.bool pl.rest,.slice Ar pr.parts.length cr,.bool pr.rest,.slice H hs.length hc] 100)):=(Below.refl _ _).alloc (Nat.le_refl _) _;have HXP:=hd_ (HXI.out.below hX);have HX:=hd_ (z0r HBW.out hX);have HN:Hid (Blk (wr.alloc (.cells #[.slice Al pl.parts.length cl,.bool pl.rest,.slice Ar pr.parts.length cr,.bool pr.rest,.slice H hs.length hc] 100)) wr.heap.size 100 [.slice Al pl.parts.length cl,.bool pl.rest,.slice Ar pr.parts.length cr,.bool pr.rest,.slice H hs.length hc]):=hd_ (z0l wr _ _);have HLT:=hd_ hlt;clear hab hX;go_upto_region 4 with fail;generalize wr.alloc (.cells #[.slice Al pl.parts.length cl,.bool pl.rest,.slice Ar pr.parts.length cr,.bool pr.rest,.slice H hs.length hc] 100)=W4 at HX HN HXP ⊢;generalize wr.heap.size=g7 at HN ⊢;clear s0 s1 s2 s3 s4;obtain⟨x0,x1,x4⟩:=(⟨HN.out.cell 0,HN.out.cell 1,HN.out.cell 4⟩:W4.cell? ⟨g7,0,none⟩=some (.slice Al pl.parts.length cl)∧W4.cell? ⟨g7,1,none⟩=some (.bool pl.rest)∧W4.cell? ⟨g7,4,none⟩=some (.slice H hs.length hc));have HHA:=hd_ (zo4 pl hs Al H cl hc p W4 (HEV.out W4 HX.out) HXP.out.l HXP.out.h hz HXP.out.n);have HONE:Hid (zds ⟨(pl,Al,cl),(pr,Ar,cr),.slice H hs.length hc,hs⟩ p=if zo3 pl hs p then zc2 pl pr p else none):=hd_ (by
    unfold zds zo3 zc2;cases z8e pl p <;> cases zdp hs p <;> simp)
   have HSM:Hid (zo3 pl hs p=true→(zc2 pl pr p).isSome=true):=hd_ (by
    unfold zo3 zc2;cases z8e pl p <;> simp)
   generalize zo3 pl hs p=o at HHA HONE HSM;generalize zc2 pl pr p=q at HXF HONE HSM;go_wp2_with fail;refine HHA.out.mono ?_;rintro e w5 ⟨rfl,hb⟩;dsimp only;have HB:=hd_ (z0r HX.out hb);have HN5:=hd_ (HN.out.below hb HN.out.lt);clear hb x0 x1 x4 HHA HN;cases o with
   | false =>
    have HNX:=hd_ (HJ.out HONE.out);go_wp2_with fail;go_roundw
    case rel=>exact⟨k+1,by go_num,by omega,hd_ ⟨HB.out,HNX.out⟩⟩
    case measure=>simp [intOf];omega
   | true =>
    have HRR:Hid (r=q):=hd_ (by
     have h1:=HR1.out;rw[HONE.out] at h1;rw[h1];have h2:=HSM.out rfl;cases q with
     | none=>cases h2
     | some s=>rfl)
    have HFW:=hd_ (HXF.out w5 HB.out);obtain⟨x0,x1,x2,x3⟩:=(⟨HN5.out.cell 0,HN5.out.cell 1,HN5.out.cell 2,HN5.out.cell 3⟩:w5.cell? ⟨g7,0,none⟩=some (.slice Al pl.parts.length cl)∧w5.cell? ⟨g7,1,none⟩=some (.bool pl.rest)∧w5.cell? ⟨g7,2,none⟩=some (.slice Ar pr.parts.length cr)∧w5.cell? ⟨g7,3,none⟩=some (.bool pr.rest));go_wp2_with fail;refine HFW.out.mono ?_;rintro e w6 ⟨rfl,hb⟩;dsimp only;have HB6:=hd_ (z0r HB.out hb);clear hb x0 x1 x2 x3;go_wp2_with fail;go_ret2;exact⟨by rw[HRR.out];rfl,HB6.out⟩
  ·have hke:k=es.length:=by omega
   subst hke;have HR:=hd_ (HNO.out (fun j hj=>HI.out.2 j hj hj));have HB:=hd_ HI.out.1;have hge:¬((es.length:Int)<(es.length:Int)):=by omega
   go_wp2_with fail;go_ret2;exact⟨by rw[HR.out];rfl,HB.out⟩
def zop:Hav:=⟨z2l,0,z2l⟩
def HgPost (w:World)(o:Option Hav)(e:Ending)(w':World):Prop:=e=.returned (.tuple #[.agg #[.string (o.getD zop).path,.int .i64 (o.getD zop).num,.string (o.getD zop).loc],.bool o.isSome])∧Below w.heap.size w w'
theorem zqs {k:Hav→ByteArray}{l:List Hav}{p:ByteArray}{i:Nat}(hi:i<l.length)(h:∀ j (hj:j<l.length),j<i→k l[j]≠p)(e:k l[i]=p):z5y k l p=some l[i]:=by
 unfold z5y;rw[List.find?_eq_some_iff_getElem];exact⟨by simpa using e,i,hi,rfl,fun j hj=>by simpa using h j (by omega) hj⟩
theorem zoq {k:Hav→ByteArray}{l:List Hav}{p:ByteArray}(h:∀ j (hj:j<l.length),k l[j]≠p):z5y k l p=none:=z62.2 fun a ha=>by
 obtain⟨j,hj,rfl⟩:=List.getElem_of_mem ha;exact h j hj
theorem zqt (l:List Hav)(v:Value)(s:ByteArray)(w:World)(hL:z4b w v l)(hl:l.length≤1000000):
  Calls prog 16 #[v,.string s] w (HgPost w (z5y Hav.path l s)):=by
 obtain⟨A,c,rfl,-⟩:=id hL;have hA:Below w.heap.size w (w.alloc (.cells #[.string ⟨#[]⟩,.int .i64 0,.string ⟨#[]⟩] 44)):=(Below.refl _ _).alloc (Nat.le_refl _) _;have HB:Hid (Blk _ _ 44 [.string ⟨#[]⟩,.int .i64 0,.string ⟨#[]⟩]):=hd_ (z0l w _ _);have HA:=hd_ hA;have HL:=hd_ hL;clear hL hA;go_enter func16,ntmps16;go_upto_region 1 with fail;generalize w.alloc (.cells #[.string ⟨#[]⟩,.int .i64 0,.string ⟨#[]⟩] 44)=W1 at HA HB ⊢;go_wp2_with fail;go_loop [6] (fun i=>∃ k:Nat,i=.int .i64 k∧k≤l.length∧Hid (∀ j (hj:j<l.length),j<k→l[j].path≠s)) (fun i=>l.length - (intOf i).toNat)
 case atStart=>exact⟨0,rfl,Nat.zero_le _,hd_ (fun j _ h=>by omega)⟩
 case round =>
  obtain⟨k,rfl,hk,HI⟩:=hrel;obtain⟨f0,f1,f2⟩:=(⟨HB.out.frozen 0,HB.out.frozen 1,HB.out.frozen 2⟩:W1.frozen? ⟨w.heap.size,0,none⟩=false∧W1.frozen? ⟨w.heap.size,1,none⟩=false∧W1.frozen? ⟨w.heap.size,2,none⟩=false);obtain⟨z0,z1,z2⟩:=(⟨HB.out.cell 0,HB.out.cell 1,HB.out.cell 2⟩:W1.cell? ⟨w.heap.size,0,none⟩=some (.string ⟨#[]⟩)∧W1.cell? ⟨w.heap.size,1,none⟩=some (.int .i64 0)∧W1.cell? ⟨w.heap.size,2,none⟩=some (.string ⟨#[]⟩));by_cases hlt:k<l.length
  ·obtain⟨ad,rfl,hab,s0,s1,s2⟩:=z4b.at_ (Row.below HL.out HA.out) hlt;have HNX:Hid (l[k].path≠s→∀ j (hj:j<l.length),j<k+1→l[j].path≠s):=hd_ fun h j hj hjk=>by
    by_cases e:j=k
    ·subst e;exact h
    ·exact HI.out j hj (by omega)
   have HYE:=hd_ (zqs (k:=Hav.path) (p:=s) hlt HI.out);generalize l[k]=x at s0 s1 s2 HNX HYE;have HLT:=hd_ hlt;by_cases h1:x.path=s
   ·have q1:(x.path.toList == s.toList)=true:=by rw[z3x,decide_eq_true h1]
    have HR:=hd_ (HYE.out h1);clear h1;go_wp2_with fail;have hE:=((HB.out.set_ 0 (.string x.path)).set_ 1 (.int .i64 x.num)).set_ 2 (.string x.loc);have hb:=((HA.out.setCell (p:=⟨w.heap.size,0,none⟩) (by simp) (.string x.path)).setCell (p:=⟨w.heap.size,1,none⟩) (by simp) (.int .i64 x.num)).setCell (p:=⟨w.heap.size,2,none⟩) (by simp) (.string x.loc)
    generalize ((W1.setCell ⟨w.heap.size,0,none⟩ (.string x.path)).setCell ⟨w.heap.size,1,none⟩ (.int .i64 x.num)).setCell ⟨w.heap.size,2,none⟩ (.string x.loc)=W8 at hE hb ⊢;have e0:=hE.cell 0;have e1:=hE.cell 1;have e2:=hE.cell 2;exact bodyPost_ret (v:=.tuple #[.agg #[.string x.path,.int .i64 x.num,.string x.loc],.bool true]) (by simp [results,results16,go_sem,e0,e1,e2]) rfl ⟨by rw[HR.out];rfl,hb⟩
   ·have q1:(x.path.toList == s.toList)=false:=by rw[z3x,decide_eq_false h1]
    have HN:=hd_ (HNX.out h1);clear h1;go_wp2_with fail;go_round
    case rel=>exact⟨k+1,by go_num,by have:=HLT.out;omega,HN⟩
    case measure=>have:=HLT.out;simp [intOf];omega
  ·have hke:k=l.length:=by omega
   subst hke;have HR:=hd_ (zoq (k:=Hav.path) (p:=s) (fun j hj=>HI.out j hj hj));go_wp2_with fail;have hE:=((HB.out.set_ 0 (.string ⟨#[]⟩)).set_ 1 (.int .i64 0)).set_ 2 (.string ⟨#[]⟩);have hb:=((HA.out.setCell (p:=⟨w.heap.size,0,none⟩) (by simp) (.string ⟨#[]⟩)).setCell (p:=⟨w.heap.size,1,none⟩) (by simp) (.int .i64 0)).setCell (p:=⟨w.heap.size,2,none⟩) (by simp) (.string ⟨#[]⟩)
   generalize ((W1.setCell ⟨w.heap.size,0,none⟩ (.string ⟨#[]⟩)).setCell ⟨w.heap.size,1,none⟩ (.int .i64 0)).setCell ⟨w.heap.size,2,none⟩ (.string ⟨#[]⟩)=W8 at hE hb ⊢;have e0:=hE.cell 0;have e1:=hE.cell 1;have e2:=hE.cell 2;exact bodyPost_ret (v:=.tuple #[.agg #[.string ⟨#[]⟩,.int .i64 0,.string ⟨#[]⟩],.bool false]) (by simp [results,results16,go_sem,e0,e1,e2]) rfl ⟨by rw[HR.out];rfl,hb⟩
theorem zor (l:List Hav)(v:Value)(s:ByteArray)(w:World)(hL:z4b w v l)(hl:l.length≤1000000):
  Calls prog 61 #[v,.string s] w (HgPost w (z5y Hav.loc l s)):=by
 obtain⟨A,c,rfl,-⟩:=id hL;have hA:Below w.heap.size w (w.alloc (.cells #[.string ⟨#[]⟩,.int .i64 0,.string ⟨#[]⟩] 44)):=(Below.refl _ _).alloc (Nat.le_refl _) _;have HB:Hid (Blk _ _ 44 [.string ⟨#[]⟩,.int .i64 0,.string ⟨#[]⟩]):=hd_ (z0l w _ _);have HA:=hd_ hA;have HL:=hd_ hL;clear hL hA;go_enter func61,ntmps61;go_upto_region 1 with fail;generalize w.alloc (.cells #[.string ⟨#[]⟩,.int .i64 0,.string ⟨#[]⟩] 44)=W1 at HA HB ⊢;go_wp2_with fail;go_loop [6] (fun i=>∃ k:Nat,i=.int .i64 k∧k≤l.length∧Hid (∀ j (hj:j<l.length),j<k→l[j].loc≠s)) (fun i=>l.length - (intOf i).toNat)
 case atStart=>exact⟨0,rfl,Nat.zero_le _,hd_ (fun j _ h=>by omega)⟩
 case round =>
  obtain⟨k,rfl,hk,HI⟩:=hrel;obtain⟨f0,f1,f2⟩:=(⟨HB.out.frozen 0,HB.out.frozen 1,HB.out.frozen 2⟩:W1.frozen? ⟨w.heap.size,0,none⟩=false∧W1.frozen? ⟨w.heap.size,1,none⟩=false∧W1.frozen? ⟨w.heap.size,2,none⟩=false);obtain⟨z0,z1,z2⟩:=(⟨HB.out.cell 0,HB.out.cell 1,HB.out.cell 2⟩:W1.cell? ⟨w.heap.size,0,none⟩=some (.string ⟨#[]⟩)∧W1.cell? ⟨w.heap.size,1,none⟩=some (.int .i64 0)∧W1.cell? ⟨w.heap.size,2,none⟩=some (.string ⟨#[]⟩));by_cases hlt:k<l.length
  ·obtain⟨ad,rfl,hab,s0,s1,s2⟩:=z4b.at_ (Row.below HL.out HA.out) hlt;have HNX:Hid (l[k].loc≠s→∀ j (hj:j<l.length),j<k+1→l[j].loc≠s):=hd_ fun h j hj hjk=>by
    by_cases e:j=k
    ·subst e;exact h
    ·exact HI.out j hj (by omega)
   have HYE:=hd_ (zqs (k:=Hav.loc) (p:=s) hlt HI.out);generalize l[k]=x at s0 s1 s2 HNX HYE;have HLT:=hd_ hlt;by_cases h1:x.loc=s
   ·have q1:(x.loc.toList == s.toList)=true:=by rw[z3x,decide_eq_true h1]
    have HR:=hd_ (HYE.out h1);clear h1;go_wp2_with fail;have hE:=((HB.out.set_ 0 (.string x.path)).set_ 1 (.int .i64 x.num)).set_ 2 (.string x.loc);have hb:=((HA.out.setCell (p:=⟨w.heap.size,0,none⟩) (by simp) (.string x.path)).setCell (p:=⟨w.heap.size,1,none⟩) (by simp) (.int .i64 x.num)).setCell (p:=⟨w.heap.size,2,none⟩) (by simp) (.string x.loc)
    generalize ((W1.setCell ⟨w.heap.size,0,none⟩ (.string x.path)).setCell ⟨w.heap.size,1,none⟩ (.int .i64 x.num)).setCell ⟨w.heap.size,2,none⟩ (.string x.loc)=W8 at hE hb ⊢;have e0:=hE.cell 0;have e1:=hE.cell 1;have e2:=hE.cell 2;exact bodyPost_ret (v:=.tuple #[.agg #[.string x.path,.int .i64 x.num,.string x.loc],.bool true]) (by simp [results,results61,go_sem,e0,e1,e2]) rfl ⟨by rw[HR.out];rfl,hb⟩
   ·have q1:(x.loc.toList == s.toList)=false:=by rw[z3x,decide_eq_false h1]
    have HN:=hd_ (HNX.out h1);clear h1;go_wp2_with fail;go_round
    case rel=>exact⟨k+1,by go_num,by have:=HLT.out;omega,HN⟩
    case measure=>have:=HLT.out;simp [intOf];omega
  ·have hke:k=l.length:=by omega
   subst hke;have HR:=hd_ (zoq (k:=Hav.loc) (p:=s) (fun j hj=>HI.out j hj hj));go_wp2_with fail;have hE:=((HB.out.set_ 0 (.string ⟨#[]⟩)).set_ 1 (.int .i64 0)).set_ 2 (.string ⟨#[]⟩);have hb:=((HA.out.setCell (p:=⟨w.heap.size,0,none⟩) (by simp) (.string ⟨#[]⟩)).setCell (p:=⟨w.heap.size,1,none⟩) (by simp) (.int .i64 0)).setCell (p:=⟨w.heap.size,2,none⟩) (by simp) (.string ⟨#[]⟩)
   generalize ((W1.setCell ⟨w.heap.size,0,none⟩ (.string ⟨#[]⟩)).setCell ⟨w.heap.size,1,none⟩ (.int .i64 0)).setCell ⟨w.heap.size,2,none⟩ (.string ⟨#[]⟩)=W8 at hE hb ⊢;have e0:=hE.cell 0;have e1:=hE.cell 1;have e2:=hE.cell 2;exact bodyPost_ret (v:=.tuple #[.agg #[.string ⟨#[]⟩,.int .i64 0,.string ⟨#[]⟩],.bool false]) (by simp [results,results61,go_sem,e0,e1,e2]) rfl ⟨by rw[HR.out];rfl,hb⟩
end Go.Proofs.YtegeboijhifmcaaGreatDoor
