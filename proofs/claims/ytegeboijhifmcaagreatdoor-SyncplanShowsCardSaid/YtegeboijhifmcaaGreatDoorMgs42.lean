/- A part of the proof. -/
import Derived.Test.YtegeboijhifmcaaGreatDoorMgs40
import Derived.Test.YtegeboijhifmcaaGreatDoorMgs41
set_option linter.unusedVariables false
set_option linter.unusedSimpArgs false
set_option maxHeartbeats 8000000
set_option maxRecDepth 100000
namespace Go.Proofs.YtegeboijhifmcaaGreatDoor
open Go.Proofs.Tryz
open Go.RowKit
def zrj (x:zr9)(s:ByteArray):Option ByteArray:=match zc2 x.r x.l s with
 | none=>none
 | some q=>if ((z8e x.l q).isSome && !(x.hs.any fun h=>(z8e h q).isSome))=true then some q else none
def bwdP (es:List zr9)(s:ByteArray):Option ByteArray:=es.findSome? (zrj · s)
def zrk (es:List zd8)(s:ByteArray):Option ByteArray:=bwdP (es.map zd8.pl) s
theorem zrl:∀ k<8,∀ p∈zff,((zfq k p).map fun s=>decide (bwdP (zg3 k) s=some p)).getD true=true:=by decide +kernel
theorem zrm:∀ k<8,∀ p∈zff,∀ x∈zg3 k,((zfq k p).map fun s=>((z8e x.r s).map (zra x.l)).getD true && ((zc2 x.r x.l s).map fun q=>decide (q.size≤1000000)).getD true).getD true=true:=by decide +kernel
theorem bwdM_at {es:List zd8}{s:ByteArray}{k:Nat}(hk:k<es.length)(h0:∀ j (hj:j<es.length),j<k→zrj es[j].pl s=none):zrk es s=(zrj es[k].pl s).or (zrk (es.drop (k+1)) s):=by
 unfold zrk bwdP;induction es generalizing k with
 | nil=>cases hk
 | cons x es ih =>
  rw[List.map_cons,List.findSome?_cons];cases k with
  | zero =>
   show _=(zrj x.pl s).or _
   cases h:zrj x.pl s <;> rfl
  | succ k =>
   rw[show zrj x.pl s=none from h0 0 (Nat.zero_lt_succ _) (Nat.zero_lt_succ _)];exact ih (k:=k) (Nat.lt_of_succ_lt_succ hk) fun j hj hjk=>h0 (j+1) (Nat.succ_lt_succ hj) (Nat.succ_lt_succ hjk)
theorem bwdM_no {es:List zd8}{s:ByteArray}(h0:∀ j (hj:j<es.length),zrj es[j].pl s=none):zrk es s=none:=by
 unfold zrk bwdP;rw[List.findSome?_eq_none_iff];intro x hx;obtain⟨y,hy,rfl⟩:=List.mem_map.1 hx;obtain⟨j,hj,rfl⟩:=List.getElem_of_mem hy;exact h0 j hj
theorem zrn {l r:Pat}{s:ByteArray}:(zc2 l r s).isSome=(z8e l s).isSome:=by
 unfold zc2;cases z8e l s <;> rfl
theorem zro (es:List zd8)(v:Value)(p:ByteArray)(w:World)(he:Env w)(hE:zdi w v es)(hM:zdj es)(hF:zdu es p)(hz:p.size≤1000000):
  Calls prog 28 #[v,.string p] w (zc3 w (zdt es p)):=by
 obtain⟨A,c,rfl,-⟩:=id hE.1;have hl32:=hM.len;have hA:Below w.heap.size w (w.alloc (.cells #[.slice A es.length c] 27)):=(Below.refl _ _).alloc (Nat.le_refl _) _;have HCK:=hd_ (zri es (.slice A es.length c) w.heap.size _ (z0l w [.slice A es.length c] 27) (hE.below hA) hM);have HE:=hd_ (fun X (hX:Below w.heap.size w X)=>hE.below hX);have HEV:=hd_ (fun X (hX:Below w.heap.size w X)=>he.below hX);have HM:=hd_ hM;have HF:=hd_ hF;have HAT:=hd_ (fun k hk=>@zdv es p k hk);have HNO:=hd_ (@zdw es p);generalize zdt es p=r at HAT HNO ⊢;have HA:=hd_ hA;clear hE hM hF he hA;go_enter func28,ntmps28;go_wp2_with fail;refine HCK.out.mono ?_;rintro e w1 ⟨rfl,hb1⟩;have HB1:=hd_ (z0r HA.out hb1);clear hb1 HCK HA;go_wp2_with fail;go_loopw [14] (fun i wr=>∃ k:Nat,i=.int .i64 k∧k≤es.length∧Hid (Below w.heap.size w wr∧∀ j (hj:j<es.length),j<k→zds es[j] p=none)) (fun i _=>es.length - (intOf i).toNat)
 case atStart=>exact⟨0,rfl,Nat.zero_le _,hd_ ⟨HB1.out,fun j _ h=>by omega⟩⟩
 case round =>
  obtain⟨k,rfl,hk,HI⟩:=hrel;by_cases hlt:k<es.length
  ·have HEX:=hd_ (HE.out wr HI.out.1);obtain⟨ad,rfl,hab,s0,s1,s2,s3,s4⟩:=HEX.out.at_ hlt;have HXI:=hd_ (HEX.out.2 es[k] (List.getElem_mem hlt));have HXO:=hd_ (HM.out.ok es[k] (List.getElem_mem hlt));have HXF:=hd_ (HF.out es[k] (List.getElem_mem hlt));have HR1:=hd_ (HAT.out k hlt HI.out.2);have HJ:Hid (zds es[k] p=none→∀ j (hj:j<es.length),j<k+1→zds es[j] p=none):=hd_ (fun h j hj hjk=>by
    by_cases e:j=k
    ·subst e;exact h
    ·exact HI.out.2 j hj (by omega))
   generalize es[k]=x at s0 s1 s2 s3 s4 HXI HXO HXF HR1 HJ;obtain⟨H,hc,hhv⟩:=HXI.out.holes;obtain⟨⟨pl,Al,cl⟩,⟨pr,Ar,cr⟩,hv,hs⟩:=x;change hv=.slice H hs.length hc at hhv;subst hhv;change wr.cell? _=some (.slice Al pl.parts.length cl) at s0;change wr.cell? _=some (.bool pl.rest) at s1;change wr.cell? _=some (.slice Ar pr.parts.length cr) at s2;change wr.cell? _=some (.bool pr.rest) at s3;change wr.cell? _=some (.slice H hs.length hc) at s4;have hX:Below wr.heap.size wr (wr.alloc (.cells #[.slice Al pl.parts.length cl,.bool pl.rest,.slice Ar pr.parts.length cr,.bool pr.rest,.slice H hs.length hc] 100)):=(Below.refl _ _).alloc (Nat.le_refl _) _;have HXP:=hd_ (HXI.out.below hX);have HX:=hd_ (z0r HI.out.1 hX);have HN:Hid (Blk (wr.alloc (.cells #[.slice Al pl.parts.length cl,.bool pl.rest,.slice Ar pr.parts.length cr,.bool pr.rest,.slice H hs.length hc] 100)) wr.heap.size 100 [.slice Al pl.parts.length cl,.bool pl.rest,.slice Ar pr.parts.length cr,.bool pr.rest,.slice H hs.length hc]):=hd_ (z0l wr _ _);have HLT:=hd_ hlt;clear hab hX;go_upto_region 6 with fail;generalize wr.alloc (.cells #[.slice Al pl.parts.length cl,.bool pl.rest,.slice Ar pr.parts.length cr,.bool pr.rest,.slice H hs.length hc] 100)=W4 at HX HN HXP ⊢;generalize wr.heap.size=g7 at HN ⊢;clear s0 s1 s2 s3 s4;have HCL:Hid (∀ X,Below W4.heap.size W4 X→X.cell? ⟨g7,0,none⟩=some (.slice Al pl.parts.length cl)∧X.cell? ⟨g7,1,none⟩=some (.bool pl.rest)∧X.cell? ⟨g7,2,none⟩=some (.slice Ar pr.parts.length cr)∧X.cell? ⟨g7,3,none⟩=some (.bool pr.rest)∧X.cell? ⟨g7,4,none⟩=some (.slice H hs.length hc)):=hd_ fun X hX=>⟨(HN.out.below hX HN.out.lt).cell 0,(HN.out.below hX HN.out.lt).cell 1,(HN.out.below hX HN.out.lt).cell 2,(HN.out.below hX HN.out.lt).cell 3,(HN.out.below hX HN.out.lt).cell 4⟩;obtain⟨x0,x1,x2,x3,x4⟩:=HCL.out W4 (Below.refl _ _);have HLF:=hd_ (zdb Al H pl.parts.length cl hs.length hc pl.rest pr.rest (.slice Ar pr.parts.length cr) W4);have HHS:=hd_ (fun X (hX:Below W4.heap.size W4 X)=>has_ok pl hs Al H cl hc p X (HEV.out X (z0r HX.out hX)) (HXP.out.l.below hX) (HXP.out.h.below hX) HXP.out.n HXO.out.reg hz)
   have HLN:=hd_ (fun X=>zda Al Ar pl.parts.length pr.parts.length cl cr pl.rest pr.rest (.slice H hs.length hc) X);have HRF:=hd_ (fun X (hX:Below W4.heap.size W4 X)=>zc5 false pl pr p Al Ar cl cr X (HEV.out X (z0r HX.out hX)) hz (HXP.out.l.below hX) (HXP.out.r.below hX) HXO.out.rule HXF.out);have HONE:Hid (zds ⟨(pl,Al,cl),(pr,Ar,cr),.slice H hs.length hc,hs⟩ p=match zc2 pl pr p with | none=>none | some s=>if zdp hs p then none else some s):=hd_ rfl
   have HTI:=hd_ (@zrn pl pr p);obtain⟨o,ho⟩:∃ o,zc2 pl pr p=o:=⟨_,rfl⟩;obtain⟨bh,hbh⟩:∃ b,zdp hs p=b:=⟨_,rfl⟩;rw[ho] at HRF HONE HTI;rw[hbh] at HHS HONE;rw[← HTI.out] at HHS;clear ho hbh HTI;go_wp2_with fail;refine HLF.out.mono ?_;rintro e w5 ⟨rfl,hb⟩;have HB5:=hd_ hb;have HH5:=hd_ (HHS.out w5 hb);clear hb x0 x1 x2 x3 x4 HLF HHS;cases o with
   | none =>
    have HNX:=hd_ (HJ.out HONE.out);go_wp2_with fail;refine HH5.out.mono ?_;rintro e w6 ⟨rfl,hb⟩;have HB6:=hd_ (z0r HX.out (z0r HB5.out hb));clear hb HH5;go_wp2_with fail;go_roundw
    case rel=>exact⟨k+1,by go_num,by omega,hd_ ⟨HB6.out,HNX.out⟩⟩
    case measure=>simp [intOf];omega
   | some s =>
    cases bh with
    | true =>
     have HNX:=hd_ (HJ.out HONE.out);go_wp2_with fail;refine HH5.out.mono ?_;rintro e w6 ⟨rfl,hb⟩;have HB6:=hd_ (z0r HX.out (z0r HB5.out hb));clear hb HH5;go_wp2_with fail;go_roundw
     case rel=>exact⟨k+1,by go_num,by omega,hd_ ⟨HB6.out,HNX.out⟩⟩
     case measure=>simp [intOf];omega
    | false =>
     have HRR:Hid (r=some s):=hd_ (by rw[HR1.out,HONE.out];rfl)
     go_wp2_with fail;refine HH5.out.mono ?_;rintro e w6 ⟨rfl,hb⟩;have HB6:=hd_ (z0r HB5.out hb);clear hb HH5;obtain⟨x0,x1,x2,x3,x4⟩:=HCL.out w6 HB6.out;go_wp2_with fail;refine (HLN.out w6).mono ?_;rintro e w7 ⟨rfl,hb⟩;have HB7:=hd_ (z0r HB6.out hb);have HR7:=hd_ (HRF.out w7 HB7.out);clear hb x0 x1 x2 x3 x4 HLN HRF;go_wp2_with fail;refine HR7.out.mono ?_;rintro e w8 ⟨rfl,hb⟩;have HB8:=hd_ (z0r HX.out (z0r HB7.out hb));clear hb HR7;go_wp2_with fail;go_ret2;exact⟨by rw[HRR.out];rfl,HB8.out⟩
  ·have hke:k=es.length:=by omega
   subst hke;have HR:=hd_ (HNO.out (fun j hj=>HI.out.2 j hj hj));have HB:=hd_ HI.out.1;have hge:¬((es.length:Int)<(es.length:Int)):=by omega
   go_wp2_with fail;go_ret2;exact⟨by rw[HR.out];rfl,HB.out⟩
theorem zrp (es:List zd8)(v:Value)(p:ByteArray)(w:World)(he:Env w)(hE:zdi w v es)(hM:zdj es)(hF:∀ x∈es,∀ caps,z8e x.r.1 p=some caps→zbv x.l.1 caps)(hQ:∀ x∈es,∀ q,zc2 x.r.1 x.l.1 p=some q→q.size≤1000000)(hz:p.size≤1000000):
  Calls prog 29 #[v,.string p] w (zc3 w (zrk es p)):=by
 obtain⟨A,c,rfl,-⟩:=id hE.1;have hl32:=hM.len;have hA:Below w.heap.size w (w.alloc (.cells #[.slice A es.length c] 27)):=(Below.refl _ _).alloc (Nat.le_refl _) _;have HCK:=hd_ (zri es (.slice A es.length c) w.heap.size _ (z0l w [.slice A es.length c] 27) (hE.below hA) hM);have HE:=hd_ (fun X (hX:Below w.heap.size w X)=>hE.below hX);have HEV:=hd_ (fun X (hX:Below w.heap.size w X)=>he.below hX);have HM:=hd_ hM;have HF:=hd_ hF;have HQZ:=hd_ hQ;have HAT:=hd_ (fun k hk=>@bwdM_at es p k hk);have HNO:=hd_ (@bwdM_no es p);generalize zrk es p=r at HAT HNO ⊢;have HA:=hd_ hA;clear hE hM hF he hA hQ;go_enter func29,ntmps29;go_wp2_with fail;refine HCK.out.mono ?_;rintro e w1 ⟨rfl,hb1⟩;have HB1:=hd_ (z0r HA.out hb1);clear hb1 HCK HA;go_wp2_with fail;go_loopw [16] (fun i wr=>∃ k:Nat,i=.int .i64 k∧k≤es.length∧Hid (Below w.heap.size w wr∧∀ j (hj:j<es.length),j<k→zrj es[j].pl p=none)) (fun i _=>es.length - (intOf i).toNat)
 case atStart=>exact⟨0,rfl,Nat.zero_le _,hd_ ⟨HB1.out,fun j _ h=>by omega⟩⟩
 case round =>
  obtain⟨k,rfl,hk,HI⟩:=hrel;by_cases hlt:k<es.length
  ·have HEX:=hd_ (HE.out wr HI.out.1);obtain⟨ad,rfl,hab,s0,s1,s2,s3,s4⟩:=HEX.out.at_ hlt;have HXI:=hd_ (HEX.out.2 es[k] (List.getElem_mem hlt));have HXO:=hd_ (HM.out.ok es[k] (List.getElem_mem hlt));have HXF:=hd_ (HF.out es[k] (List.getElem_mem hlt));have HXQ:=hd_ (HQZ.out es[k] (List.getElem_mem hlt));have HR1:=hd_ (HAT.out k hlt HI.out.2);have HJ:Hid (zrj es[k].pl p=none→∀ j (hj:j<es.length),j<k+1→zrj es[j].pl p=none):=hd_ (fun h j hj hjk=>by
    by_cases e:j=k
    ·subst e;exact h
    ·exact HI.out.2 j hj (by omega))
   generalize es[k]=x at s0 s1 s2 s3 s4 HXI HXO HXF HXQ HR1 HJ;obtain⟨H,hc,hhv⟩:=HXI.out.holes;obtain⟨⟨pl,Al,cl⟩,⟨pr,Ar,cr⟩,hv,hs⟩:=x;change hv=.slice H hs.length hc at hhv;subst hhv;change wr.cell? _=some (.slice Al pl.parts.length cl) at s0;change wr.cell? _=some (.bool pl.rest) at s1;change wr.cell? _=some (.slice Ar pr.parts.length cr) at s2;change wr.cell? _=some (.bool pr.rest) at s3;change wr.cell? _=some (.slice H hs.length hc) at s4;have hX:Below wr.heap.size wr (wr.alloc (.cells #[.slice Al pl.parts.length cl,.bool pl.rest,.slice Ar pr.parts.length cr,.bool pr.rest,.slice H hs.length hc] 100)):=(Below.refl _ _).alloc (Nat.le_refl _) _;have HXP:=hd_ (HXI.out.below hX);have HX:=hd_ (z0r HI.out.1 hX);have HN:Hid (Blk (wr.alloc (.cells #[.slice Al pl.parts.length cl,.bool pl.rest,.slice Ar pr.parts.length cr,.bool pr.rest,.slice H hs.length hc] 100)) wr.heap.size 100 [.slice Al pl.parts.length cl,.bool pl.rest,.slice Ar pr.parts.length cr,.bool pr.rest,.slice H hs.length hc]):=hd_ (z0l wr _ _);have HLT:=hd_ hlt;clear hab hX;go_upto_region 6 with fail;generalize wr.alloc (.cells #[.slice Al pl.parts.length cl,.bool pl.rest,.slice Ar pr.parts.length cr,.bool pr.rest,.slice H hs.length hc] 100)=W4 at HX HN HXP ⊢;generalize wr.heap.size=g7 at HN ⊢;clear s0 s1 s2 s3 s4;have HCL:Hid (∀ X,Below W4.heap.size W4 X→X.cell? ⟨g7,0,none⟩=some (.slice Al pl.parts.length cl)∧X.cell? ⟨g7,1,none⟩=some (.bool pl.rest)∧X.cell? ⟨g7,2,none⟩=some (.slice Ar pr.parts.length cr)∧X.cell? ⟨g7,3,none⟩=some (.bool pr.rest)∧X.cell? ⟨g7,4,none⟩=some (.slice H hs.length hc)):=hd_ fun X hX=>⟨(HN.out.below hX HN.out.lt).cell 0,(HN.out.below hX HN.out.lt).cell 1,(HN.out.below hX HN.out.lt).cell 2,(HN.out.below hX HN.out.lt).cell 3,(HN.out.below hX HN.out.lt).cell 4⟩;obtain⟨x0,x1,x2,x3,x4⟩:=HCL.out W4 (Below.refl _ _);have HLF:=hd_ (fun X=>zdb Al H pl.parts.length cl hs.length hc pl.rest pr.rest (.slice Ar pr.parts.length cr) X);have HLN:=hd_ (fun X=>zda Al Ar pl.parts.length pr.parts.length cl cr pl.rest pr.rest (.slice H hs.length hc) X)
   have HRF:=hd_ (fun X (hX:Below W4.heap.size W4 X)=>zre false pl pr p Al Ar cl cr X (HEV.out X (z0r HX.out hX)) hz (HXP.out.l.below hX) (HXP.out.r.below hX) HXO.out.rule HXF.out);have HONE:Hid (zrj (zd8.pl ⟨(pl,Al,cl),(pr,Ar,cr),.slice H hs.length hc,hs⟩) p=match zc2 pr pl p with | none=>none | some q=>if ((z8e pl q).isSome && !zdp hs q)=true then some q else none):=hd_ (by
    unfold zrj zd8.pl zdp;simp only[List.any_map]
    rfl)
   obtain⟨o,ho⟩:∃ o,zc2 pr pl p=o:=⟨_,rfl⟩;have HHS:Hid (∀ q,o=some q→∀ X,Below W4.heap.size W4 X→Calls prog 53 #[.agg #[.slice Al pl.parts.length cl,.bool pl.rest,.slice H hs.length hc],.string q] X fun e w'=>e=.returned (.bool ((z8e pl q).isSome && !zdp hs q))∧Below X.heap.size X w'):=hd_ fun q hq X hX=>has_ok pl hs Al H cl hc q X (HEV.out X (z0r HX.out hX)) (HXP.out.l.below hX) (HXP.out.h.below hX) HXP.out.n HXO.out.reg (HXQ.out q (by rw[← hq];exact ho))
   rw[ho] at HRF HONE;clear ho;go_wp2_with fail;refine (HLN.out W4).mono ?_;rintro e w5 ⟨rfl,hb⟩;have HB5:=hd_ hb;have HR5:=hd_ (HRF.out w5 hb);clear hb x0 x1 x2 x3 x4 HLN HRF;cases o with
   | none =>
    have HNX:=hd_ (HJ.out HONE.out);go_wp2_with fail;refine HR5.out.mono ?_;rintro e w6 ⟨rfl,hb⟩;have HB6:=hd_ (z0r HX.out (z0r HB5.out hb));clear hb HR5;go_wp2_with fail;go_roundw
    case rel=>exact⟨k+1,by go_num,by omega,hd_ ⟨HB6.out,HNX.out⟩⟩
    case measure=>simp [intOf];omega
   | some q =>
    go_wp2_with fail;refine HR5.out.mono ?_;rintro e w6 ⟨rfl,hb⟩;have HB6:=hd_ (z0r HB5.out hb);clear hb HR5;obtain⟨x0,x1,x2,x3,x4⟩:=HCL.out w6 HB6.out;go_wp2_with fail;refine (HLF.out w6).mono ?_;rintro e w7 ⟨rfl,hb⟩;have HB7:=hd_ (z0r HB6.out hb);have HH7:=hd_ (HHS.out q rfl w7 HB7.out);clear hb x0 x1 x2 x3 x4 HLF HHS;generalize ((z8e pl q).isSome && !zdp hs q)=bb at HH7 HONE;cases bb with
    | false =>
     have HNX:=hd_ (HJ.out HONE.out);go_wp2_with fail;refine HH7.out.mono ?_;rintro e w8 ⟨rfl,hb⟩;have HB8:=hd_ (z0r HX.out (z0r HB7.out hb));clear hb HH7;go_wp2_with fail;go_roundw
     case rel=>exact⟨k+1,by go_num,by omega,hd_ ⟨HB8.out,HNX.out⟩⟩
     case measure=>simp [intOf];omega
    | true =>
     have HRR:Hid (r=some q):=hd_ (by rw[HR1.out,HONE.out];rfl)
     go_wp2_with fail;refine HH7.out.mono ?_;rintro e w8 ⟨rfl,hb⟩;have HB8:=hd_ (z0r HX.out (z0r HB7.out hb));clear hb HH7;go_wp2_with fail;go_ret2;exact⟨by rw[HRR.out];rfl,HB8.out⟩
  ·have hke:k=es.length:=by omega
   subst hke;have HR:=hd_ (HNO.out (fun j hj=>HI.out.2 j hj hj));have HB:=hd_ HI.out.1;have hge:¬((es.length:Int)<(es.length:Int)):=by omega
   go_wp2_with fail;go_ret2;exact⟨by rw[HR.out];rfl,HB.out⟩
theorem bwd_ok {es:List zd8}{k:Nat}(hk:k<8)(h:es.map zd8.pl=zg3 k){p s:ByteArray}(hp:p∈zff)(hs:zdt es p=some s):
  zrk es s=some p∧(∀ x∈es,∀ caps,z8e x.r.1 s=some caps→zbv x.l.1 caps)∧(∀ x∈es,∀ q,zc2 x.r.1 x.l.1 s=some q→q.size≤1000000)∧s.size≤200:=by
 have hf:=(zgb hk h).2 p hp;rw[hf] at hs;have h1:=zrl k hk p hp;rw[hs] at h1;have h2:∀ x∈es,(((z8e x.pl.r s).map (zra x.pl.l)).getD true && ((zc2 x.pl.r x.pl.l s).map fun q=>decide (q.size≤1000000)).getD true)=true:=fun x hx=>by
  have:=zrm k hk p hp x.pl (by rw[← h];exact List.mem_map.2 ⟨x,hx,rfl⟩)
  rw[hs] at this;exact this
 refine⟨?_,fun x hx caps hc=>?_,fun x hx q hq=>?_,?_⟩
 ·unfold zrk;rw[h];simpa using h1
 ·have:=h2 x hx;rw[Bool.and_eq_true] at this;have e:z8e x.pl.r s=some caps:=hc;rw[e] at this;exact zg6 this.1
 ·have:=h2 x hx;rw[Bool.and_eq_true] at this;have e:zc2 x.pl.r x.pl.l s=some q:=hq;rw[e] at this;simpa using this.2
 ·have:=zga k hk p hp;rw[hs] at this;simpa using this
open Go.Sort (grow)
section
variable {u0 u1 u2 u3 u4 u5 u6 u7 u8 u9 gn gt gu gx gy gz gA gC gD gE gF gG gH gI gJ gK gL gM gN gO gP gQ gR gT gV gW gX gY gZ i6 i7 i8 ia ib ic ie ig ii ij ik il im io ip iq ir iu iv iw ix iy iz iA iB iC iD iE iF iG iH iI iJ iK iL iM iN iO iP iQ iR iS iT iU iV iW iX iY iZ j0 j1 j2 j5 j6 j7 j8 j9 jb jd je jf bw bz bA bB bD bE bF bG bH bI bJ bK bL bM bN bO bP bQ bT bU bV bW bX bY : Value}
def ShRow (ws:List Hav)(N:Nat→Nat)(o:Option Rev)(u:Option ByteArray)(k:Nat)(p:ByteArray):Prop:=
 ((o.isSome && u.isSome && z2v (zec o).act)=false∧N (k+1)=N k) ∨
 ((o.isSome && u.isSome && z2v (zec o).act)=true∧N (k+1)=N k+1∧u=some (u.getD ⟨#[]⟩)∧∃ hn:N k<ws.length,ws[N k]'hn=⟨p,(zec o).num,u.getD ⟨#[]⟩⟩)
theorem zrq (D:List Rev)(f:ByteArray→Option ByteArray)(m:Int):
  ∃ N:Nat→Nat,N 0=0∧N 6=(zfk D f m).length∧(∀ k,N k≤k)∧∀ k (hk:k<zff.length),ShRow (zfk D f m) N (z30 D (zff[k]'hk) (fun v:Rev=>decide (v.chg≤m))) (f (zff[k]'hk)) k (zff[k]'hk):=by
 refine⟨zqu (zfj D f m),cnt_0,zrc,cnt_le,fun k hk=>?_⟩;unfold ShRow;have no:zfj D f m (zff[k]'hk)=none→zqu (zfj D f m) (k+1)=zqu (zfj D f m) k:=fun h=>(cnt_no (k:=Hav.path) (fun q a e=>(zfm e).1) hk h).1;cases hg:z30 D (zff[k]'hk) (fun v:Rev=>decide (v.chg≤m)) with
 | none=>exact .inl ⟨rfl,no (zfu hg)⟩
 | some r =>
  cases hu:f (zff[k]'hk) with
  | none=>exact .inl ⟨rfl,no (zfw hg hu)⟩
  | some s =>
   cases hl:z2v r.act with
   | false=>exact .inl ⟨hl,no (zfv hg hl)⟩
   | true =>
    obtain⟨c1,hn,c2⟩:=zrd hk (zfx hg hl hu);exact .inr ⟨hl,c1,rfl,hn,c2⟩
theorem shR10 (ops:Array Oper)(hops:Tryz.f10.body.bind (zci 10)=some ops)(Q:Exit→Act→World→Prop)(V:World)(g3 gp k n cr cq:Nat)(Ar Aq:Option Addr)(ch:Int)(p:ByteArray)(v:Rev)(bo:Bool)
  (hC:∀ w',Below V.heap.size V w'→w'.cell? ⟨g3,0,none⟩=some (.slice Ar n cr)∧w'.cell? ⟨g3,1,none⟩=some (.slice Aq 0 cq)∧w'.cell? ⟨g3,3,none⟩=some (.int .i64 ch)∧w'.cell? ⟨gp,k,none⟩=some (.string p)) (hk:(k:Int)<6)
  (hL:∀ X,Below V.heap.size V X→Calls prog 27 #[.agg #[.slice Ar n cr,.slice Aq 0 cq],.string p,.int .i64 ch] X fun e w'=>e=.returned (.tuple #[.agg #[.string v.path,.int .i64 v.num,.int .i64 v.chg,.int .i64 v.act,.int .i64 v.ty.base,.bool v.ty.k,.bool v.ty.l,.bool v.ty.x,.int .u64 v.sum,.int .i64 v.size,.string v.frm,.int .i64 v.fnum],.bool bo])∧Below X.heap.size X w')
  (hQ:∀(eV eW eX eY eZ fa fd fe ff fg fh fj:Value) (g:Nat) (w':World),Blk w' g 66 [.string v.path,.int .i64 v.num,.int .i64 v.chg,.int .i64 v.act,.int .i64 v.ty.base,.bool v.ty.k,.bool v.ty.l,.bool v.ty.x,.int .u64 v.sum,.int .i64 v.size,.string v.frm,.int .i64 v.fnum]→Below V.heap.size V w'→Q .normal ⟨#[u0,u1,u2,.pointer (some ⟨g3,0,none⟩),u4,u5,u6,u7,.slice (some ⟨gp,0,none⟩) 6 6,.int .i64 k,.pointer (some ⟨g,0,none⟩),.bool bo,gu,gx,gy,gz,gA,gC,gD,gE,gF,gG,gH,gI,gJ,gK,gL,gM,gN,gO,gP,gQ,gR,gT,gV,gW,gX,gY,gZ,i6,i7,i8,ia,ib,eV,eW,eX,eY,eZ,fa,fd,fe,ff,fg,fh,fj,iu,iv,iw,ix,iy,iz,iA,iB,iC,iD,iE,iF,iG,iH,iI,iJ,iK,iL,iM,iN,iO,iP,iQ,iR,iS,iT,iU,iV,iW,iX,iY,iZ,j0,j1,j2,j5,j6,j7,j8,j9,jb,jd,je,jf,bw,bz,bA,bB,bD,bE,bF,bG,bH,bI,bJ,bK,bL,bM,bN,bO,bP,bQ,bT,bU,bV,bW,bX,bY],[]⟩ w'):
  (Code.region 10 ops true).wp prog Q ⟨#[u0,u1,u2,.pointer (some ⟨g3,0,none⟩),u4,u5,u6,u7,.slice (some ⟨gp,0,none⟩) 6 6,.int .i64 k,gn,gt,gu,gx,gy,gz,gA,gC,gD,gE,gF,gG,gH,gI,gJ,gK,gL,gM,gN,gO,gP,gQ,gR,gT,gV,gW,gX,gY,gZ,i6,i7,i8,ia,ib,ic,ie,ig,ii,ij,ik,il,im,io,ip,iq,ir,iu,iv,iw,ix,iy,iz,iA,iB,iC,iD,iE,iF,iG,iH,iI,iJ,iK,iL,iM,iN,iO,iP,iQ,iR,iS,iT,iU,iV,iW,iX,iY,iZ,j0,j1,j2,j5,j6,j7,j8,j9,jb,jd,je,jf,bw,bz,bA,bB,bD,bE,bF,bG,bH,bI,bJ,bK,bL,bM,bN,bO,bP,bQ,bT,bU,bV,bW,bX,bY],[]⟩ V:=by
 simp only[Tryz.f10,Option.bind_some,zci] at hops
 simp at hops
 subst hops;have HQ:=hd_ hQ;have HLZ:=hd_ hL;have hVA:Below V.heap.size V (V.alloc (.cells #[.string ⟨#[]⟩,.int .i64 0,.int .i64 0,.int .i64 0,.int .i64 0,.bool false,.bool false,.bool false,.int .u64 0,.int .i64 0,.string ⟨#[]⟩,.int .i64 0] 66)).drew:=((Below.refl _ _).alloc (Nat.le_refl _) _).drew;obtain⟨x0,x1,x2,x3⟩:=hC V (Below.refl _ _);obtain⟨y0,y1,y2,y3⟩:=hC _ hVA;clear hVA hC hQ hL;refine wp_region_noPanic ?_;go_region_law (first
  | (go_simp;go_at_call 27;refine (HLZ.out _ (by repeat (first | exact Below.refl _ _ | refine Below.drew ?_ | refine zcf ?_ _))).mono ?_;rintro e w8 ⟨rfl,hX8⟩;have hS8:Below V.heap.size V w8:=(by repeat (first | exact Below.refl _ _ | refine Below.drew ?_ | refine zcf ?_ _):Below V.heap.size V _).trans (hX8.mono (by simp));(try (have hblk:=Blk.below (Blk.drew' (z0l V [.string ⟨#[]⟩,.int .i64 0,.int .i64 0,.int .i64 0,.int .i64 0,.bool false,.bool false,.bool false,.int .u64 0,.int .i64 0,.string ⟨#[]⟩,.int .i64 0] 66)) hX8 (by simp);obtain⟨p0,p1,p2,p3,p4,p5,p6,p7,p8,p9,p10,p11⟩:=z7z hblk;obtain⟨r0,r1,r2,r3,r4,r5,r6,r7,r8,r9,r10,r11⟩:=zdz hblk))))
 all_goals refine NoPanic.normal ?_
 all_goals first
  | exact HQ.out _ _ _ _ _ _ _ _ _ _ _ _ _ _ (ze0 hblk v) (ze1 hS8 (Nat.le_refl _) v)
  | exact HQ.out _ _ _ _ _ _ _ _ _ _ _ _ _ _ (z0l w8 [.string v.path,.int .i64 v.num,.int .i64 v.chg,.int .i64 v.act,.int .i64 v.ty.base,.bool v.ty.k,.bool v.ty.l,.bool v.ty.x,.int .u64 v.sum,.int .i64 v.size,.string v.frm,.int .i64 v.fnum] 66) (hS8.alloc hS8.size _)
theorem shR11 (ops:Array Oper)(hops:Tryz.f10.body.bind (zci 11)=some ops)(Q:Exit→Act→World→Prop)(V:World)(g3 gp k:Nat)(mv:Value)(p s:ByteArray)(bo:Bool)
  (h2:V.cell? ⟨g3,2,none⟩=some mv) (hp:V.cell? ⟨gp,k,none⟩=some (.string p)) (hk:(k:Int)<6)
  (hL:∀ X,Below V.heap.size V X→Calls prog 28 #[mv,.string p] X fun e w'=>e=.returned (.tuple #[.string s,.bool bo])∧Below X.heap.size X w')
  (hQ:∀(fk fm fp fq ft fu fv fw fx fy:Value) (w':World),Below V.heap.size V w'→Q .normal ⟨#[u0,u1,u2,.pointer (some ⟨g3,0,none⟩),u4,u5,u6,u7,.slice (some ⟨gp,0,none⟩) 6 6,.int .i64 k,gn,gt,.string s,.bool bo,gy,gz,gA,gC,gD,gE,gF,gG,gH,gI,gJ,gK,gL,gM,gN,gO,gP,gQ,gR,gT,gV,gW,gX,gY,gZ,i6,i7,i8,ia,ib,ic,ie,ig,ii,ij,ik,il,im,io,ip,iq,ir,fk,fm,fp,fq,ft,fu,fv,fw,fx,fy,iE,iF,iG,iH,iI,iJ,iK,iL,iM,iN,iO,iP,iQ,iR,iS,iT,iU,iV,iW,iX,iY,iZ,j0,j1,j2,j5,j6,j7,j8,j9,jb,jd,je,jf,bw,bz,bA,bB,bD,bE,bF,bG,bH,bI,bJ,bK,bL,bM,bN,bO,bP,bQ,bT,bU,bV,bW,bX,bY],[]⟩ w'):
  (Code.region 11 ops true).wp prog Q ⟨#[u0,u1,u2,.pointer (some ⟨g3,0,none⟩),u4,u5,u6,u7,.slice (some ⟨gp,0,none⟩) 6 6,.int .i64 k,gn,gt,gu,gx,gy,gz,gA,gC,gD,gE,gF,gG,gH,gI,gJ,gK,gL,gM,gN,gO,gP,gQ,gR,gT,gV,gW,gX,gY,gZ,i6,i7,i8,ia,ib,ic,ie,ig,ii,ij,ik,il,im,io,ip,iq,ir,iu,iv,iw,ix,iy,iz,iA,iB,iC,iD,iE,iF,iG,iH,iI,iJ,iK,iL,iM,iN,iO,iP,iQ,iR,iS,iT,iU,iV,iW,iX,iY,iZ,j0,j1,j2,j5,j6,j7,j8,j9,jb,jd,je,jf,bw,bz,bA,bB,bD,bE,bF,bG,bH,bI,bJ,bK,bL,bM,bN,bO,bP,bQ,bT,bU,bV,bW,bX,bY],[]⟩ V:=by
 simp only[Tryz.f10,Option.bind_some,zci] at hops
 simp at hops
 subst hops;have HQ:=hd_ hQ;have cF:∀ d os,Calls prog 28 #[mv,.string p] (grow (redrawn V d) os) fun e w''=>e=.returned (.tuple #[.string s,.bool bo])∧∃ p:Regrown,w''=grow (redrawn V p.d) p.os:=fun d os=>Calls.regrown_of (hL _ (below_regrown V d os));have m2:=cell_regrown h2;have b0:=cell_regrown hp;clear hQ hL h2 hp;refine wp_region_quiet_below (by kernel_rfl) (by kernel_rfl) ?_
 repeat (first | go_big_quiet_step (with_reducible exact cF _ _) | quiet_step (with_reducible exact cF _ _))
 refine wpQuiet_nil ?_;intro _ hw9;obtain⟨⟨dq,osq⟩,hw9⟩:=hw9;subst hw9;exact HQ.out _ _ _ _ _ _ _ _ _ _ _ (below_regrown V dq osq)
theorem shR12 (ops:Array Oper)(hops:Tryz.f10.body.bind (zci 12)=some ops)(Q:Exit→Act→World→Prop)(V:World)(g10:Nat)(b1 b2:Bool)(r:Rev)(hx:V.cell? ⟨g10,3,none⟩=some (.int .i64 r.act))
  (hQ:∀(fA fB fC fD fE fF fG fH fI fJ fK fL fM fN fO:Value),Q .normal ⟨#[u0,u1,u2,u3,u4,u5,u6,u7,u8,u9,.pointer (some ⟨g10,0,none⟩),.bool b1,gu,.bool b2,gy,gz,gA,gC,gD,gE,gF,gG,gH,gI,gJ,gK,gL,gM,gN,gO,gP,gQ,gR,gT,gV,gW,gX,gY,gZ,i6,i7,i8,ia,ib,ic,ie,ig,ii,ij,ik,il,im,io,ip,iq,ir,iu,iv,iw,ix,iy,iz,iA,iB,iC,iD,fA,fB,fC,fD,fE,fF,fG,fH,fI,fJ,fK,fL,fM,fN,fO,.bool (!(b1 && b2 && z2v r.act)),iU,iV,iW,iX,iY,iZ,j0,j1,j2,j5,j6,j7,j8,j9,jb,jd,je,jf,bw,bz,bA,bB,bD,bE,bF,bG,bH,bI,bJ,bK,bL,bM,bN,bO,bP,bQ,bT,bU,bV,bW,bX,bY],[]⟩ V):
  (Code.region 12 ops false).wp prog Q ⟨#[u0,u1,u2,u3,u4,u5,u6,u7,u8,u9,.pointer (some ⟨g10,0,none⟩),.bool b1,gu,.bool b2,gy,gz,gA,gC,gD,gE,gF,gG,gH,gI,gJ,gK,gL,gM,gN,gO,gP,gQ,gR,gT,gV,gW,gX,gY,gZ,i6,i7,i8,ia,ib,ic,ie,ig,ii,ij,ik,il,im,io,ip,iq,ir,iu,iv,iw,ix,iy,iz,iA,iB,iC,iD,iE,iF,iG,iH,iI,iJ,iK,iL,iM,iN,iO,iP,iQ,iR,iS,iT,iU,iV,iW,iX,iY,iZ,j0,j1,j2,j5,j6,j7,j8,j9,jb,jd,je,jf,bw,bz,bA,bB,bD,bE,bF,bG,bH,bI,bJ,bK,bL,bM,bN,bO,bP,bQ,bT,bU,bV,bW,bX,bY],[]⟩ V:=by
 simp only[Tryz.f10,Option.bind_some,zci] at hops
 simp at hops
 subst hops;have hl:z2v r.act=(!(r.act == 3) && !(r.act == 5)):=rfl;rw[hl] at hQ;have q3:(r.act == 3)=(r.act == 3):=rfl;generalize hc3:(r.act == 3)=c3 at hQ;generalize hc5:(r.act == 5)=c5 at hQ;have HQ:=hd_ hQ;clear hQ hl q3;cases b1 <;> cases b2 <;> cases c3 <;> cases c5
 all_goals
  go_wp2_with fail;exact HQ.out _ _ _ _ _ _ _ _ _ _ _ _ _ _ _
theorem shR13 (ops:Array Oper)(hops:Tryz.f10.body.bind (zci 13)=some ops)(Q:Exit→Act→World→Prop)(V:World)(g10 gp k n m c:Nat)(a5:Addr)(h:Hav)
  (hy:z4c V (a5.add (n * 3)) h) (hr:V.cell? ⟨g10,1,none⟩=some (.int .i64 h.num)) (hp:V.cell? ⟨gp,k,none⟩=some (.string h.path)) (hk:(k:Int)<6) (hn:n<m)
  (hQ:∀(fQ fR fS fT fU fV fW fX fY fZ ga gb gf gg gh gi gj gm:Value) (w':World),Below V.heap.size V w'→Q .normal ⟨#[u0,u1,u2,u3,u4,.slice (some a5) m c,u6,.int .i64 n,.slice (some ⟨gp,0,none⟩) 6 6,.int .i64 k,.pointer (some ⟨g10,0,none⟩),gt,.string h.loc,gx,gy,gz,gA,gC,gD,gE,gF,gG,gH,gI,gJ,gK,gL,gM,gN,gO,gP,gQ,gR,gT,gV,gW,gX,gY,gZ,i6,i7,i8,ia,ib,ic,ie,ig,ii,ij,ik,il,im,io,ip,iq,ir,iu,iv,iw,ix,iy,iz,iA,iB,iC,iD,iE,iF,iG,iH,iI,iJ,iK,iL,iM,iN,iO,iP,iQ,iR,iS,iT,fQ,fR,fS,fT,fU,fV,fW,fX,fY,fZ,ga,gb,gf,gg,gh,gi,gj,gm,.bool false,bz,bA,bB,bD,bE,bF,bG,bH,bI,bJ,bK,bL,bM,bN,bO,bP,bQ,bT,bU,bV,bW,bX,bY],[]⟩ w'):
  (Code.region 13 ops true).wp prog Q ⟨#[u0,u1,u2,u3,u4,.slice (some a5) m c,u6,.int .i64 n,.slice (some ⟨gp,0,none⟩) 6 6,.int .i64 k,.pointer (some ⟨g10,0,none⟩),gt,.string h.loc,gx,gy,gz,gA,gC,gD,gE,gF,gG,gH,gI,gJ,gK,gL,gM,gN,gO,gP,gQ,gR,gT,gV,gW,gX,gY,gZ,i6,i7,i8,ia,ib,ic,ie,ig,ii,ij,ik,il,im,io,ip,iq,ir,iu,iv,iw,ix,iy,iz,iA,iB,iC,iD,iE,iF,iG,iH,iI,iJ,iK,iL,iM,iN,iO,iP,iQ,iR,iS,iT,iU,iV,iW,iX,iY,iZ,j0,j1,j2,j5,j6,j7,j8,j9,jb,jd,je,jf,bw,bz,bA,bB,bD,bE,bF,bG,bH,bI,bJ,bK,bL,bM,bN,bO,bP,bQ,bT,bU,bV,bW,bX,bY],[]⟩ V:=by
 simp only[Tryz.f10,Option.bind_some,zci] at hops
 simp at hops
 subst hops;have HQ:=hd_ hQ;obtain⟨r0,r1,r2⟩:=hy;have e0:=cell_regrown r0;have e1:=cell_regrown r1;have e2:=cell_regrown r2;have e3:=cell_regrown hr;have e4:=cell_regrown hp;have hne:=fun W=>zrb h W;have hz:decide ((m:Int)≤(n:Int))=false:=by simp;omega
 have hz2:(n:Int)<(m:Int):=by omega
 clear hQ r0 r1 r2 hr hp;refine wp_region_quiet_below (by kernel_rfl) (by kernel_rfl) ?_
 repeat (first | go_big_quiet_step (fail) | quiet_step (fail))
 refine wpQuiet_nil ?_;intro _ hw9;obtain⟨⟨dq,osq⟩,hw9⟩:=hw9;subst hw9;rw[show decide (m≤n)=false from decide_eq_false (by omega)]
 exact HQ.out _ _ _ _ _ _ _ _ _ _ _ _ _ _ _ _ _ _ _ (below_regrown V dq osq)
end
end Go.Proofs.YtegeboijhifmcaaGreatDoor
