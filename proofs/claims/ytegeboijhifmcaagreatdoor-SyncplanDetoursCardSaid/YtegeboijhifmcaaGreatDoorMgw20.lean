/- A part of the proof. -/
import Derived.Test.YtegeboijhifmcaaGreatDoorMgw16
import Derived.Test.YtegeboijhifmcaaGreatDoorMgw13
set_option linter.unusedVariables false
set_option linter.unusedSimpArgs false
set_option maxHeartbeats 8000000
set_option maxRecDepth 100000
namespace Go.Proofs.YtegeboijhifmcaaGreatDoor
open Go.Proofs.Tryz
open Go.RowKit
theorem zdh (p q:Pat)(A B:Option Addr)(a b:Nat)(hv hu:Value)(w:World)(hp:za9 w (.slice A p.parts.length a) p)(hq:za9 w (.slice B q.parts.length b) q)(hm:zai p q=none):
  Calls prog 66 #[.agg #[.slice A p.parts.length a,.bool p.rest,hv],.agg #[.slice B q.parts.length b,.bool q.rest,hu]] w fun e w'=>e=.returned (.bool false)∧Below w.heap.size w w':=by
 obtain⟨W1,hW1⟩:∃ W,W=(w.alloc (.cells #[.slice A p.parts.length a,.bool p.rest,hv] 115)).alloc (.cells #[.slice B q.parts.length b,.bool q.rest,hu] 115):=⟨_,rfl⟩;have hA:Below w.heap.size w W1:=by rw[hW1];exact ((Below.refl _ _).alloc (Nat.le_refl _) _).alloc (by simp) _
 have h2:Blk W1 w.heap.size 115 [.slice A p.parts.length a,.bool p.rest,hv]:=by rw[hW1];exact (z0l w _ _).alloc _
 have h3:Blk W1 (w.heap.size+1) 115 [.slice B q.parts.length b,.bool q.rest,hu]:=by
  rw[hW1];have:=z0l (w.alloc (.cells #[.slice A p.parts.length a,.bool p.rest,hv] 115)) [.slice B q.parts.length b,.bool q.rest,hu] 115;simp only[World.size_alloc] at this
  exact this
 have HME:=hd_ (zbr p q A B a b W1 (hp.below hA) (hq.below hA));have HM:=hd_ hm;have HA:=hd_ hA;have HW1:=hd_ hW1;obtain⟨x0,x1⟩:=(⟨h2.cell 0,h2.cell 1⟩:W1.cell? ⟨w.heap.size,0,none⟩=some (.slice A p.parts.length a)∧W1.cell? ⟨w.heap.size,1,none⟩=some (.bool p.rest));obtain⟨y0,y1⟩:=(⟨h3.cell 0,h3.cell 1⟩:W1.cell? ⟨w.heap.size+1,0,none⟩=some (.slice B q.parts.length b)∧W1.cell? ⟨w.heap.size+1,1,none⟩=some (.bool q.rest));clear hp hq hm hA hW1 h2 h3;go_enter func66,ntmps66;go_upto_region 1 with fail;rw[← HW1.out];go_wp2_with fail;refine HME.out.mono ?_;rintro e w4 ⟨hb,⟨-,rfl⟩ | ⟨m',A6,c6,hmm,-⟩⟩
 case inr=>rw[HM.out] at hmm;cases hmm
 have HB:=hd_ (z0r HA.out hb);have hX:Below w4.heap.size w4 (w4.alloc (.cells #[.slice none 0 0,.bool false] 97)):=(Below.refl _ _).alloc (Nat.le_refl _) _;have HB5:=hd_ (z0r HB.out hX);clear x0 x1 y0 y1 hb hX;go_upto_region 2 with fail;generalize w4.alloc (.cells #[.slice none 0 0,.bool false] 97)=W5 at HB5 ⊢;go_quiet (fail)
 go_wp2_with fail;go_ret;exact⟨rfl,HB5.out.trans ((zqq W5 _).mono HB5.out.size)⟩
theorem zhw (r:Rev)(w:World):Calls prog 96 #[.agg #[.string r.path,.int .i64 r.num,.int .i64 r.chg,.int .i64 r.act,.int .i64 r.ty.base,.bool r.ty.k,.bool r.ty.l,.bool r.ty.x,.int .u64 r.sum,.int .i64 r.size,.string r.frm,.int .i64 r.fnum]] w fun e w'=>e=.returned (.bool (!z2v r.act))∧Below w.heap.size w w':=by
 have hA:Below w.heap.size w (w.alloc (.cells #[.string r.path,.int .i64 r.num,.int .i64 r.chg,.int .i64 r.act,.int .i64 r.ty.base,.bool r.ty.k,.bool r.ty.l,.bool r.ty.x,.int .u64 r.sum,.int .i64 r.size,.string r.frm,.int .i64 r.fnum] 66)):=(Below.refl _ _).alloc (Nat.le_refl _) _;by_cases h3:r.act=3
 ·have q:(r.act == 3)=true:=by simpa using h3
  have HL:Hid ((!z2v r.act)=true):=hd_ (by rw[h3];rfl)
  clear h3;go_enter func96,ntmps96;go_wp2_with fail;go_ret;exact⟨z0w HL.out.symm,hA⟩
 ·have q:(r.act == 3)=false:=by simpa using h3
  by_cases h5:r.act=5
  ·have q5:(r.act == 5)=true:=by simpa using h5
   have HL:Hid ((!z2v r.act)=true):=hd_ (by rw[h5];rfl)
   clear h3 h5;go_enter func96,ntmps96;go_wp2_with fail;go_ret;exact⟨z0w HL.out.symm,hA⟩
  ·have q5:(r.act == 5)=false:=by simpa using h5
   have HL:Hid ((!z2v r.act)=false):=hd_ (by unfold z2v;simp [h3,h5])
   clear h3 h5;go_enter func96,ntmps96;go_wp2_with fail;go_ret;exact⟨z0w HL.out.symm,hA⟩
def zi6 (es:List Edt)(x:Edt):Nat:=es.countP fun y=>(decide (x.act=5) && decide (y.act=4) && decide (y.frm=x.path)) || (decide (x.act=4) && decide (y.act=5) && decide (y.path=x.frm))
def zi7 (es:List Edt)(x:Edt):Bool:=decide (zi6 es x=1) || (decide (x.act≠5) && decide (x.act≠4))
open Go.Sort (grow)
def zix:Option Syn→Syn→Bool
 | none,_=>false
 | some q,x=>decide (0≤z2u q.path x.path)
def ziy (f:ByteArray→Option ByteArray):Option Syn→List Syn→Bool
 | _,[]=>false
 | p,x :: r=>if (!zik x ((f x.path).getD z2l) || zix p x)=true then true else ziy f (some x) r
def ziz (hs:List Hav):ByteArray→Option ByteArray:=hs.foldl (fun f h=>upd f h.path h.loc) (fun _=>none)
theorem zj0 (l:List Hav)(h:Hav):ziz (l++[h])=upd (ziz l) h.path h.loc:=by unfold ziz;rw[List.foldl_append];rfl
def zj1 (hs:List Hav)(ss:List Syn):Int:=
 if z4g hs=0 then (if ziy (ziz hs) none ss=true then 351 else if z4g (z4y hs ss)=0 then 0 else 351) else 350
theorem planE_1 {hs:List Hav}{ss:List Syn}(h:¬ z4g hs=0):zj1 hs ss=350:=if_neg h
theorem zj2 {hs:List Hav}{ss:List Syn}(h:z4g hs=0):zj1 hs ss=if ziy (ziz hs) none ss=true then 351 else if z4g (z4y hs ss)=0 then 0 else 351:=if_pos h
theorem zj3 (o:Option ByteArray):z2h Value.string (.string z2l) false o=.string (o.getD z2l):=by cases o <;> rfl
def zj4 (l:List Syn):Option Syn:=l.getLast?
theorem zj5 (l:List Syn)(x:Syn):zj4 (l++[x])=some x:=by unfold zj4;simp
theorem zj6 (hs:List Hav)(ss:List Syn)(hv pv:Value)(w:World)(hH:z4b w hv hs)(hS:z4z w pv ss)
  (hz:∀ x∈hs,x.path.size≤1000000∧x.loc.size≤1000000) (hz2:∀ x∈ss,x.path.size≤1000000∧x.dst.size≤1000000) (hzr:∀ x∈z4y hs ss,x.path.size≤1000000∧x.loc.size≤1000000) (hl:hs.length+ss.length≤1000000)
  (hres:∀ X,Below w.heap.size w X→Calls prog 39 #[hv,pv] X fun e w'=>∃ v,e=.returned v∧z4b w' v (z4y hs ss)∧Below X.heap.size X w'):
  Calls prog 19 #[hv,pv] w fun e w'=>e=.returned (.int .i64 (zj1 hs ss))∧Below w.heap.size w w':=by
 have HC0:=hd_ (fun X (hX:Below w.heap.size w X)=>z4o hs hv X (hH.below hX) (fun x hx=>⟨by have:=(hz x hx).1;omega,by have:=(hz x hx).2;omega⟩))
 have HC1:=hd_ (fun X v (hv:z4b X v (z4y hs ss))=>z4o (z4y hs ss) v X hv (fun x hx=>⟨by have:=(hzr x hx).1;omega,by have:=(hzr x hx).2;omega⟩))
 have HRES:=hd_ hres;have HH:=hd_ hH;have HS:=hd_ hS;have HZ2:=hd_ hz2;obtain⟨Ah,ch,rfl,-⟩:=id hH;obtain⟨A1,c1,rfl,-⟩:=id hS;have hmm:=@run_makeMap prog;clear hres hH hS hz hz2 hzr;by_cases he:z4g hs=0
 case neg =>
  have HE:=hd_ (planE_1 (ss:=ss) he);have HC:=hd_ (HC0.out w (Below.refl _ _));generalize z4g hs=ce at he HC;have n0:(ce == 0)=false:=beq_eq_false_iff_ne.2 he;have n1:(ce != 0)=true:=by rw[bne,n0];rfl
  clear he;go_enter func19,ntmps19;go_wp2_with fail;refine HC.out.mono ?_;rintro e w1 ⟨rfl,hb1⟩;have HB1:=hd_ hb1;clear hb1;go_wp2_with fail;go_ret;exact⟨z34 HE.out.symm,HB1.out⟩
 case pos =>
  have HE:=hd_ (zj2 (ss:=ss) he);rw[he] at HC0;clear he;have HC:=hd_ (HC0.out w (Below.refl _ _));go_enter func19,ntmps19;go_wp2_with fail;refine HC.out.mono ?_;rintro e w1 ⟨rfl,hb1⟩;have HM1:=hd_ (z2f.new Value.string Value.string w1);have HB2:=hd_ (hb1.alloc hb1.size (.map #[] 0));have HW:=hd_ hb1.size;clear hb1;go_wp2_with fail;go_loopw [16] (fun i wr=>∃ k:Nat,k≤hs.length∧i=.int .i64 k∧Hid (Below w.heap.size w wr)∧Hid (z2f Value.string Value.string wr w1.heap.size (ziz (hs.take k)))) (fun i _=>hs.length - (intOf i).toNat)
  case atStart=>exact⟨0,Nat.zero_le _,rfl,HB2,HM1⟩
  case round =>
   obtain⟨k,hk,rfl,HB,HM⟩:=hrel;by_cases hlt:k<hs.length
   ·obtain⟨ad,rfl,hab,y0,y1,y2⟩:=z4b.at_ (HH.out.below HB.out) hlt;have HT:=hd_ (show hs.take (k+1)=hs.take k++[hs[k]] from List.take_succ_eq_append_getElem hlt);generalize hs[k]=h at y0 y1 y2 HT;have HB3:=hd_ (HB.out.alloc HB.out.size (.cells #[.string h.path,.int .i64 h.num,.string h.loc] 44));have HM3:=hd_ (HM.out.alloc (.cells #[.string h.path,.int .i64 h.num,.string h.loc] 44));obtain⟨z0,z1,z2⟩:=z3s (x:=h) (z0l wr [.string h.path,.int .i64 h.num,.string h.loc] 44);obtain⟨w3,hup,hM4,hg4,-⟩:=z2f.update (w:=wr.alloc (.cells #[.string h.path,.int .i64 h.num,.string h.loc] 44)) HM3.out (z2d underlying9) underlying101 h.path h.loc;have HN:Hid (Below w.heap.size w w3∧z2f Value.string Value.string w3 w1.heap.size (ziz (hs.take (k+1)))):=hd_ ⟨HB3.out.trans ⟨hg4.os,hg4.tape,hg4.output,hg4.size,fun q hq=>hg4.block q (Nat.lt_of_lt_of_le hq HB3.out.size) (by intro e;injection e with e;have:=HW.out;omega)⟩,by rw[HT.out,zj0];exact hM4⟩
    have HLT:=hd_ hlt;clear hM4 hg4;go_wp2_with fail;go_roundw
    case rel=>exact⟨k+1,by omega,by go_num,hd_ HN.out.1,hd_ HN.out.2⟩
    case measure=>simp [intOf];omega
   ·have hke:k=hs.length:=by omega
    subst hke;rw[List.take_length] at HM;have hge:¬((hs.length:Int)<(hs.length:Int)):=by omega
    go_wp2_with fail;go_loopw [28] (fun i wr=>∃ k:Nat,k≤ss.length∧i=.int .i64 k∧Hid (Below w.heap.size w wr)∧Hid (z2f Value.string Value.string wr w1.heap.size (ziz hs))∧Hid (ziy (ziz hs) none ss=ziy (ziz hs) (zj4 (ss.take k)) (ss.drop k))) (fun i _=>ss.length - (intOf i).toNat)
    case atStart=>exact⟨0,Nat.zero_le _,rfl,HB,HM,hd_ rfl⟩
    case round =>
     obtain⟨k,hk,rfl,HB,HM,HV⟩:=hrel;by_cases hlt:k<ss.length
     ·have hprev:k=0∨∃(j:Nat) (hj:j<ss.length),k=j+1∧zj4 (ss.take k)=some ss[j]:=by
       cases k with
       | zero=>exact .inl rfl
       | succ j=>exact .inr ⟨j,by omega,rfl,by rw[List.take_succ_eq_append_getElem (by omega),zj5]⟩
      obtain⟨ad,rfl,hab,y0,y1,y2,y3,y4⟩:=z4z.at_ (HS.out.below HB.out) hlt;have hxs:=HZ2.out ss[k] (List.getElem_mem _);have HT:=hd_ (show ss.take (k+1)=ss.take k++[ss[k]] from List.take_succ_eq_append_getElem hlt);rw[List.drop_eq_getElem_cons hlt] at HV;generalize ss[k]=x at y0 y1 y2 y3 y4 hxs HT HV;have HB3:=hd_ (HB.out.alloc HB.out.size (.cells #[.int .i64 x.kind,.string x.path,.int .i64 x.num,.string x.frm,.string x.dst] 48));have HM3:=hd_ (HM.out.alloc (.cells #[.int .i64 x.kind,.string x.path,.int .i64 x.num,.string x.frm,.string x.dst] 48));obtain⟨z0,z1,z2,z3,z4⟩:=z3r (x:=x) (z0l wr [.int .i64 x.kind,.string x.path,.int .i64 x.num,.string x.frm,.string x.dst] 48);have cL:∀ d os,(Instr.lookup 101 (.map (some w1.heap.size)) (.string x.path) false).run prog (grow (redrawn (wr.alloc (.cells #[.int .i64 x.kind,.string x.path,.int .i64 x.num,.string x.frm,.string x.dst] 48)) d) os)=.ok (.string ((ziz hs x.path).getD z2l)) (grow (redrawn (wr.alloc (.cells #[.int .i64 x.kind,.string x.path,.int .i64 x.num,.string x.frm,.string x.dst] 48)) d) os):=fun d os=>by
       have hh:=z2f.lookup (z2f.below HM3.out (below_regrown _ d os)) (z2d underlying9) underlying101 (z:=.string z2l) (by rfl) x.path false
       rw[zj3] at hh;exact hh
      have HF:=hd_ (fun X=>zin x ((ziz hs x.path).getD z2l) X (by omega) (by omega))
      have m0:=cell_regrown z0;have m1:=cell_regrown z1;have m2:=cell_regrown z2;have m3:=cell_regrown z3;have m4:=cell_regrown z4;generalize hlo:(ziz hs x.path).getD z2l=lo at cL HF;cases hok:zik x lo
      ·have HO:Hid (zj1 hs ss=351):=hd_ (by rw[HE.out,HV.out,ziy,hlo,hok];rfl)
       rw[hok] at HF;have cF:∀ d os,Calls prog 44 #[.agg #[.int .i64 x.kind,.string x.path,.int .i64 x.num,.string x.frm,.string x.dst],.string lo] (grow (redrawn (wr.alloc (.cells #[.int .i64 x.kind,.string x.path,.int .i64 x.num,.string x.frm,.string x.dst] 48)) d) os) fun e w''=>e=.returned (.bool false)∧∃ p:Regrown,w''=grow (redrawn (wr.alloc (.cells #[.int .i64 x.kind,.string x.path,.int .i64 x.num,.string x.frm,.string x.dst] 48)) p.d) p.os:=fun d os=>Calls.regrown_of (by have hh:=HF.out (grow (redrawn (wr.alloc (.cells #[.int .i64 x.kind,.string x.path,.int .i64 x.num,.string x.frm,.string x.dst] 48)) d) os);exact hh)
       clear hok hprev hlo;go_wp2_with fail;refine wp_region_quiet_below (by kernel_rfl) (by kernel_rfl) ?_
       repeat (first | go_big_quiet_step (exact cF _ _) | quiet_step (exact cF _ _))
       refine wpQuiet_nil ?_;intro _ hw9;obtain⟨⟨dq,osq⟩,hw9⟩:=hw9;subst hw9;have HB4:=hd_ (z0q HB3.out HB3.out.size (below_regrown _ dq osq));have HM4:=hd_ (z2f.below HM3.out (below_regrown _ dq osq));generalize grow (redrawn (wr.alloc (.cells #[.int .i64 x.kind,.string x.path,.int .i64 x.num,.string x.frm,.string x.dst] 48)) dq) osq=W5 at HB4 HM4 ⊢;go_wp2_with fail;go_ret;exact⟨z34 HO.out.symm,HB4.out⟩
      ·rw[hok] at HF;have cF:∀ d os,Calls prog 44 #[.agg #[.int .i64 x.kind,.string x.path,.int .i64 x.num,.string x.frm,.string x.dst],.string lo] (grow (redrawn (wr.alloc (.cells #[.int .i64 x.kind,.string x.path,.int .i64 x.num,.string x.frm,.string x.dst] 48)) d) os) fun e w''=>e=.returned (.bool true)∧∃ p:Regrown,w''=grow (redrawn (wr.alloc (.cells #[.int .i64 x.kind,.string x.path,.int .i64 x.num,.string x.frm,.string x.dst] 48)) p.d) p.os:=fun d os=>Calls.regrown_of (by have hh:=HF.out (grow (redrawn (wr.alloc (.cells #[.int .i64 x.kind,.string x.path,.int .i64 x.num,.string x.frm,.string x.dst] 48)) d) os);exact hh)
       rcases hprev with h0 | ⟨j,hj,hkj,hla⟩
       ·have HO:Hid (ziy (ziz hs) none ss=ziy (ziz hs) (zj4 (ss.take (k+1))) (ss.drop (k+1))):=hd_ (by rw[HV.out,ziy,hlo,hok,show zj4 (ss.take k)=none by rw[h0];rfl,HT.out,zj5];rfl)
        have n0:decide (0<k)=false:=by simp;omega
        clear h0 hok hlo;go_wp2_with fail;refine wp_region_quiet_below (by kernel_rfl) (by kernel_rfl) ?_
        repeat (first | go_big_quiet_step (exact cF _ _) | quiet_step (exact cF _ _))
        refine wpQuiet_nil ?_;intro _ hw9;obtain⟨⟨dq,osq⟩,hw9⟩:=hw9;subst hw9;have HB4:=hd_ (z0q HB3.out HB3.out.size (below_regrown _ dq osq));have HM4:=hd_ (z2f.below HM3.out (below_regrown _ dq osq));generalize grow (redrawn (wr.alloc (.cells #[.int .i64 x.kind,.string x.path,.int .i64 x.num,.string x.frm,.string x.dst] 48)) dq) osq=W5 at HB4 HM4 ⊢;go_wp2_with fail;go_roundw
        case rel=>exact⟨k+1,by omega,by go_num,HB4,HM4,HO⟩
        case measure=>simp [intOf];omega
       ·obtain⟨ad2,had,hab2,u0,u1,u2,u3,u4⟩:=z4z.at_ (HS.out.below HB.out) hj;injection had with had
        subst had;have hys:=HZ2.out ss[j] (List.getElem_mem _);generalize ss[j]=y at hla u0 u1 u2 u3 u4 hys;have hba:=(Below.refl wr.heap.size wr).alloc (Nat.le_refl _) (.cells #[.int .i64 x.kind,.string x.path,.int .i64 x.num,.string x.frm,.string x.dst] 48);have e1:=cell_regrown ((hba.cell (p:=⟨(ad.add (j * 5)).block,(ad.add (j * 5)).off+1,none⟩) (block_lt_of_cell u1)).trans u1);have n0:decide (0<k)=true:=by simp;omega
        have n1:(k:Int) - 1=(j:Int):=by omega
        have HCMP:=hd_ (fun X=>z41 y.path x.path X (by omega) (by omega))
        have cC:∀ d os,Calls prog 45 #[.string y.path,.string x.path] (grow (redrawn (wr.alloc (.cells #[.int .i64 x.kind,.string x.path,.int .i64 x.num,.string x.frm,.string x.dst] 48)) d) os) fun e w''=>e=.returned (.int .i64 (z2u y.path x.path))∧∃ p:Regrown,w''=grow (redrawn (wr.alloc (.cells #[.int .i64 x.kind,.string x.path,.int .i64 x.num,.string x.frm,.string x.dst] 48)) p.d) p.os:=fun d os=>Calls.regrown_of ((HCMP.out (grow (redrawn (wr.alloc (.cells #[.int .i64 x.kind,.string x.path,.int .i64 x.num,.string x.frm,.string x.dst] 48)) d) os)).mono (by rintro e w5 ⟨rfl,n5,rfl⟩;exact⟨rfl,zqq _ _⟩))
        generalize hcv:z2u y.path x.path=cv at cC;by_cases hge:0≤cv
        ·have HO:Hid (zj1 hs ss=351):=hd_ (by rw[HE.out,HV.out,ziy,hlo,hok,hla,show zix (some y) x=true by rw[zix,hcv,decide_eq_true hge]];rfl)
         have n2:decide ((0:Int)≤cv)=true:=decide_eq_true hge;clear hcv hok hla hkj hge hlo;go_wp2_with fail;refine wp_region_quiet_below (by kernel_rfl) (by kernel_rfl) ?_
         repeat (first | go_big_quiet_step (first | exact cF _ _ | exact cC _ _) | quiet_step (first | exact cF _ _ | exact cC _ _))
         refine wpQuiet_nil ?_;intro _ hw9;obtain⟨⟨dq,osq⟩,hw9⟩:=hw9;subst hw9;have HB4:=hd_ (z0q HB3.out HB3.out.size (below_regrown _ dq osq));have HM4:=hd_ (z2f.below HM3.out (below_regrown _ dq osq));generalize grow (redrawn (wr.alloc (.cells #[.int .i64 x.kind,.string x.path,.int .i64 x.num,.string x.frm,.string x.dst] 48)) dq) osq=W5 at HB4 HM4 ⊢;go_wp2_with fail;go_ret;exact⟨z34 HO.out.symm,HB4.out⟩
        ·have HO:Hid (ziy (ziz hs) none ss=ziy (ziz hs) (zj4 (ss.take (k+1))) (ss.drop (k+1))):=hd_ (by rw[HV.out,ziy,hlo,hok,hla,HT.out,zj5,show zix (some y) x=false by rw[zix,hcv,decide_eq_false hge]];rfl)
         have n2:decide ((0:Int)≤cv)=false:=decide_eq_false hge;clear hcv hok hla hkj hge hlo;go_wp2_with fail;refine wp_region_quiet_below (by kernel_rfl) (by kernel_rfl) ?_
         repeat (first | go_big_quiet_step (first | exact cF _ _ | exact cC _ _) | quiet_step (first | exact cF _ _ | exact cC _ _))
         refine wpQuiet_nil ?_;intro _ hw9;obtain⟨⟨dq,osq⟩,hw9⟩:=hw9;subst hw9;have HB4:=hd_ (z0q HB3.out HB3.out.size (below_regrown _ dq osq));have HM4:=hd_ (z2f.below HM3.out (below_regrown _ dq osq));generalize grow (redrawn (wr.alloc (.cells #[.int .i64 x.kind,.string x.path,.int .i64 x.num,.string x.frm,.string x.dst] 48)) dq) osq=W5 at HB4 HM4 ⊢;go_wp2_with fail;go_roundw
         case rel=>exact⟨k+1,by omega,by go_num,HB4,HM4,HO⟩
         case measure=>simp [intOf];omega
     ·have hke:k=ss.length:=by omega
      subst hke;rw[List.drop_length] at HV;have hge:¬((ss.length:Int)<(ss.length:Int)):=by omega
      have HR1:=hd_ (HRES.out wr HB.out);have HE2:Hid (zj1 hs ss=if z4g (z4y hs ss)=0 then 0 else 351):=hd_ (by rw[HE.out,HV.out];rfl)
      go_wp2_with fail;refine HR1.out.mono ?_;rintro e w2 ⟨v,rfl,hv,hb2⟩;have HVV:=hd_ (HC1.out w2 v hv);have HB5:=hd_ (z0r HB.out hb2);obtain⟨A2,c2,rfl,-⟩:=id hv;clear hv hb2;generalize z4g (z4y hs ss)=ce at HVV HE2;go_wp2_with fail;refine HVV.out.mono ?_;rintro e w3 ⟨rfl,hb3⟩;have HB6:=hd_ (z0r HB5.out hb3);clear hb3;by_cases he:ce=0
      ·subst he;go_wp2_with fail;go_ret;exact⟨z34 HE2.out.symm,HB6.out⟩
      ·have HO:=hd_ (HE2.out.trans (if_neg he));have n0:(ce == 0)=false:=beq_eq_false_iff_ne.2 he;have n1:(ce != 0)=true:=by rw[bne,n0];rfl
       clear he;go_wp2_with fail;go_ret;exact⟨z34 HO.out.symm,HB6.out⟩
def znh (w:World)(p:Pat)(e:Ending)(w':World):Prop:=e=.returned (.tuple #[.int .i64 (za2 p),.bool p.rest])∧Below w.heap.size w w'
theorem zni (p:Pat)(A:Option Addr)(c:Nat)(w:World)(hp:za9 w (.slice A p.parts.length c) p)(h0:z7e p=0):
  Calls prog 182 #[.agg #[.slice A p.parts.length c,.bool p.rest]] w (znh w p):=by
 have hB:=z0l w [.slice A p.parts.length c,.bool p.rest] 97;have hA:Below w.heap.size w (w.alloc (.cells #[.slice A p.parts.length c,.bool p.rest] 97)):=(Below.refl _ _).alloc (Nat.le_refl _) _;have HP:=hd_ hp;have HF:=hd_ (fun k (hk:k<p.parts.length)=>zcc h0 hk);have hl12:=zao h0;clear hp h0;go_enter func182,ntmps182;go_upto_region 1 with fail;generalize w.alloc (.cells #[.slice A p.parts.length c,.bool p.rest] 97)=W1 at hB hA ⊢;have d0:W1.cell? ⟨w.heap.size,0,none⟩=some (.slice A p.parts.length c):=hB.cell 0;have d1:W1.cell? ⟨w.heap.size,1,none⟩=some (.bool p.rest):=hB.cell 1;have HA:=hd_ hA;clear hA hB;go_wp2_with fail;go_loop [4,12] (fun s i=>∃ k:Nat,k≤p.parts.length∧i=.int .i64 k∧s=.int .i64 (za1 p.parts k)) (fun _ i=>p.parts.length - (intOf i).toNat)
 case atStart=>exact⟨0,Nat.zero_le _,rfl,rfl⟩
 case round =>
  obtain⟨k,hk,rfl,rfl⟩:=hrel;have hsl:=za5 (l:=p.parts) k;by_cases hlt:k<p.parts.length
  ·obtain⟨ad,rfl,hab,x0⟩:=Strs.at_ (HP.out.below HA.out).1 hlt;have HT:=hd_ (fun X=>z9n p.parts[k] X ((HP.out.small) _ (List.getElem_mem _)));unfold z9k at HT;have HN:=hd_ (za3 hlt);rw[z9b (HF.out k hlt)] at HT;generalize p.parts[k]=part at x0 HT HN;generalize z79 part=st at HT HN;generalize z80 part=sx at HT;generalize za1 p.parts k=m at HN hsl;clear hab;cases st with
   | false =>
    go_wp2_with fail;refine (HT.out _).mono ?_;rintro e w' ⟨rfl,rfl⟩;go_wp2_with fail;go_round
    case rel=>exact⟨k+1,by omega,by go_num,by rw[HN.out];rfl⟩
    case measure=>simp [intOf];omega
   | true =>
    go_wp2_with fail;refine (HT.out _).mono ?_;rintro e w' ⟨rfl,rfl⟩;go_wp2_with fail;go_round
    case rel=>exact⟨k+1,by omega,by go_num,by rw[HN.out];go_num⟩
    case measure=>simp [intOf];omega
  ·have hke:k=p.parts.length:=by omega
   subst hke;rw[za4];go_wp2_with fail;go_region_law (fail)
   go_wp2_with fail;go_ret2;exact⟨rfl,HA.out.drew⟩
theorem znj (ex:Bool)(l r:Pat)(A B:Option Addr)(a b:Nat)(w:World)(hL:za9 w (.slice A l.parts.length a) l)(hR:za9 w (.slice B r.parts.length b) r)(h1:z7e l=0)(h2:z7e r=0)(h3:za2 l=za2 r)(h4:l.rest=r.rest):
  Calls prog 134 #[.agg #[.bool ex,.slice A l.parts.length a,.bool l.rest,.slice B r.parts.length b,.bool r.rest]] w fun e w'=>e=.returned (.int .i64 0)∧Below w.heap.size w w':=by
 have hB:=z0l w [.bool ex,.slice A l.parts.length a,.bool l.rest,.slice B r.parts.length b,.bool r.rest] 119;have hA:Below w.heap.size w (w.alloc (.cells #[.bool ex,.slice A l.parts.length a,.bool l.rest,.slice B r.parts.length b,.bool r.rest] 119)):=(Below.refl _ _).alloc (Nat.le_refl _) _;have HCL:=hd_ (fun X (hX:Below w.heap.size w X)=>zca l A a X (hL.below hX).1 hL.small);have HCR:=hd_ (fun X (hX:Below w.heap.size w X)=>zca r B b X (hR.below hX).1 hR.small);have HKL:=hd_ (fun X (hX:Below w.heap.size w X)=>zni l A a X (hL.below hX) h1);have HKR:=hd_ (fun X (hX:Below w.heap.size w X)=>zni r B b X (hR.below hX) h2);unfold znh at HKL HKR;rw[h1] at HCL;rw[h2] at HCR;rw[← h3,← h4] at HKR;rw[← h4] at HCR ⊢;rw[← h4] at hB hA;clear hL hR h1 h2 h3 h4;generalize za2 l=n at HKL HKR;go_enter func134,ntmps134;go_upto_region 1 with fail;generalize w.alloc (.cells #[.bool ex,.slice A l.parts.length a,.bool l.rest,.slice B r.parts.length b,.bool l.rest] 119)=W1 at hB hA ⊢;have d1:W1.cell? ⟨w.heap.size,1,none⟩=some (.slice A l.parts.length a):=hB.cell 1;have d2:W1.cell? ⟨w.heap.size,2,none⟩=some (.bool l.rest):=hB.cell 2;have HB:=hd_ hB;have HA:=hd_ hA;have HC:=hd_ (HCL.out W1 hA);clear hA hB HCL;go_wp2_with fail;refine HC.out.mono ?_;rintro e w2 ⟨rfl,hb⟩;have HB:=hd_ (HB.out.below hb HB.out.lt);have HA:=hd_ (z0r HA.out hb);clear hb d1 d2 HC;have d3:w2.cell? ⟨w.heap.size,3,none⟩=some (.slice B r.parts.length b):=HB.out.cell 3;have d4:w2.cell? ⟨w.heap.size,4,none⟩=some (.bool l.rest):=HB.out.cell 4;have HC:=hd_ (HCR.out w2 HA.out);clear HCR;go_wp2_with fail;refine HC.out.mono ?_;rintro e w3 ⟨rfl,hb⟩;have HB:=hd_ (HB.out.below hb HB.out.lt);have HA:=hd_ (z0r HA.out hb);clear hb d3 d4 HC;have d1:w3.cell? ⟨w.heap.size,1,none⟩=some (.slice A l.parts.length a):=HB.out.cell 1;have d2:w3.cell? ⟨w.heap.size,2,none⟩=some (.bool l.rest):=HB.out.cell 2;have HC:=hd_ (HKL.out w3 HA.out);clear HKL;go_wp2_with fail;refine HC.out.mono ?_;rintro e w4 ⟨rfl,hb⟩;have HB:=hd_ (HB.out.below hb HB.out.lt)
 have HA:=hd_ (z0r HA.out hb);clear hb d1 d2 HC;have d3:w4.cell? ⟨w.heap.size,3,none⟩=some (.slice B r.parts.length b):=HB.out.cell 3;have d4:w4.cell? ⟨w.heap.size,4,none⟩=some (.bool l.rest):=HB.out.cell 4;have HC:=hd_ (HKR.out w4 HA.out);clear HKR;go_wp2_with fail;refine HC.out.mono ?_;rintro e w5 ⟨rfl,hb⟩;have HA:=hd_ (z0r HA.out hb);clear hb d3 d4 HC;have q1:((n:Int) != (n:Int))=false:=by simp
 cases l.rest
 all_goals
  go_wp2_with fail;go_ret;exact⟨rfl,HA.out⟩
end Go.Proofs.YtegeboijhifmcaaGreatDoor
