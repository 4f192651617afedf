/- A part. -/
import Derived.Test.YtijghobkkdbhnaaGreatDoorMcw38
import Derived.Test.YtijghobkkdbhnaaGreatDoorMcw39
import Derived.Test.YtijghobkkdbhnaaGreatDoorMcw40
set_option linter.unusedVariables false
set_option linter.unusedSimpArgs false
set_option maxHeartbeats 8000000
set_option maxRecDepth 100000
namespace Go.Proofs.YtijghobkkdbhnaaGreatDoor
open Go.Proofs.Tryz
open Go.RowKit
theorem zme (p:ByteArray):∀(l:List Hav) (f:ByteArray→Option ByteArray),z6i l→(l.foldl (fun f h=>upd f h.path h.loc) f) p=((z6k l p).map Hav.loc).or (f p)
 | [],f,_=>rfl
 | a :: l,f,h=>by
  rw[List.foldl_cons,zme p l _ h.tail];show _=((z64 Hav.path (a :: l) p).map Hav.loc).or (f p)
  rw[z69];by_cases e:a.path=p
  ·rw[if_pos e];have:z6k l p=none:=z68.2 fun b hb eb=>z65 (h.head b hb) (e.trans eb.symm);rw[this];unfold upd;rw[if_pos e.symm];rfl
  ·rw[if_neg e];unfold upd;rw[if_neg (fun e2=>e e2.symm)]
theorem zmf {hs:List Hav}(h:zek hs)(p:ByteArray):(zii hs p).getD z2q=zjg hs p:=by
 unfold zii zjg;rw[zme p hs _ h.srt];cases (z6k hs p).map Hav.loc <;> rfl
theorem zmg {F:ByteArray→Option ByteArray}:∀(q:Option Syn) (l:List Syn),z6j l→(∀ y,q=some y→∀ x∈l,z2z y.path x.path<0)→(∀ x∈l,zi5 x ((F x.path).getD z2q)=true)→zih F q l=false
 | _,[],_,_,_=>rfl
 | q,x :: l,h,hq,hf=>by
  have hp:zig q x=false:=by
   cases q with
   | none=>rfl
   | some y =>
    have:=hq y rfl x (List.mem_cons_self ..);exact decide_eq_false (by omega)
  rw[zih,hf x (List.mem_cons_self ..),hp];exact zmg (some x) l h.tail (fun y e z hz=>by cases e;exact h.head z hz) fun z hz=>hf z (List.mem_cons_of_mem _ hz)
section
variable {hs ws : List Hav} {op dt : List ByteArray}
theorem zmh:(zet hs ws op dt).length≤hs.length+ws.length:=by
 unfold zet zes;rw[markL_len,List.length_map];exact zkj _ _ _
theorem zmi (h1:zek hs)(h2:zek ws){x:Syn}(hx:x∈zet hs ws op dt):x.path.size≤200∧x.frm.size≤200∧x.dst.size≤200:=by
 have h:=zjk h1 h2 hx;unfold zi5 at h;simp only[Bool.and_eq_true] at h
 obtain⟨⟨⟨⟨a1,a2⟩,a3⟩,a4⟩,a5⟩:=h;refine⟨(zem a1).2.1,?_,?_⟩
 ·have e:x.frm=zjg hs x.path:=of_decide_eq_true a2;rw[e];unfold zjg;cases hg:z6k hs x.path with
  | none=>decide
  | some a=>exact (zkl h1 a (zjh hg).1).2
 ·split at a4
  ·rename_i c;rw[c];decide
  ·simp only[Bool.and_eq_true] at a4;exact (zem a4.2).2.1
end
structure PlOk (D:List Rev)(es:List zcv):Prop where
 len:D.length≤1000
 six:∀ r∈D,r.path∈zf0
 num:∀ r∈D,1≤r.num
 shw:zfd es
 fwd:zf3 (zdc es)
theorem plOk_of {D:List Rev}{n k:Nat}{es:List zcv}(hD:zm7 D n)(hn:n≤1000)(hk:k<8)(he:es.map zcv.pl=zfo k):PlOk D es:=
 ⟨Nat.le_trans hD.len hn,hD.six,zm9 hD,(zfw hk he).1,(zfc k).of_congr (zfw hk he).2⟩
section
variable {D : List Rev} {es : List zcv} {hs : List Hav} {op dt : List ByteArray} {dv dr mv hv ov tv : Value} {w : World}
theorem PlOk.wok (h:PlOk D es)(m:Int):zek (zf5 D (zdc es) m):=zf8 h.num h.fwd
theorem pl_plan (h:PlOk D es)(h1e:OneE es)(m:Int)(he:Env w)(hR:z4c w dv D)(hE:zd1 w mv es)(hH:z4h w hv hs)(hOk:zek hs)(hl:hs.length≤100)(hop:Strs w ov op)(hdt:Strs w tv dt)(opl:op.length≤1000)(dtl:dt.length≤1000):
  Calls prog 12 #[.agg #[dv,dr],mv,.int .i64 m,hv,ov,tv] w (zki w (zet hs (zf5 D (zdc es) m) op dt)):=
 zkp D es m hs op dt dv dr mv hv ov tv w he hR hE (by have:=h.len;omega) h.six h.shw h1e h.num h.fwd hH hOk hl hop hdt opl dtl
end
def zmj:ByteArray:=⟨#[47,47,99,47,97]⟩
def zmk:ByteArray:=⟨#[47,47,99,47,98]⟩
def knRv (p:ByteArray):Rev:=⟨p,1,1,1,⟨1,false,false,false⟩,1,1,z2q,0⟩
def knD:List Rev:=[knRv knA,knRv knB]
def knH:List Hav:=[⟨knA,1,zmk⟩,⟨knB,1,zmj⟩]
def knWs:List Hav:=[⟨knA,1,zmj⟩,⟨knB,1,zmk⟩]
def knX:Syn:=⟨3,knA,1,zmk,zmj⟩
def knY:Syn:=⟨6,knB,1,zmj,zmk⟩
theorem zml:zf5 knD (zfb 0) 1=knWs:=by kernel_rfl
theorem kn_hav:zek knH:=by
 refine⟨?_,by decide +kernel,by decide +kernel⟩
 unfold z6i z63 knH;simp only[List.pairwise_cons,List.mem_singleton,forall_eq,List.not_mem_nil,false_implies,implies_true,List.Pairwise.nil,and_true]
 decide +kernel
theorem zmm:zes knH knWs [knB] []=[knX,knY]:=by
 have c1:¬ z2z knA knA<0:=by decide +kernel
 have c2:¬ 0<z2z knA knA:=by decide +kernel
 have d1:¬ z2z knB knB<0:=by decide +kernel
 have d2:¬ 0<z2z knB knB:=by decide +kernel
 have e1:¬(⟨knA,1,zmk⟩:Hav)=⟨knA,1,zmj⟩:=fun h=>by injection h with _ _ h;exact absurd h (by decide)
 have e2:¬(⟨knB,1,zmj⟩:Hav)=⟨knB,1,zmk⟩:=fun h=>by injection h with _ _ h;exact absurd h (by decide)
 have h:z6o 4 knH knWs=[⟨0,knA,1,zmk,zmj⟩,⟨0,knB,1,zmj,zmk⟩]:=by
  unfold knH knWs;simp only[z6o,if_neg c1,if_neg c2,if_neg d1,if_neg d2,if_neg e1,if_neg e2]
  rfl
 show (z6o 4 knH knWs).map (zer [knB] [])=_
 rw[h];kernel_rfl
theorem kn_blA:blB knH [knX,knY] knA=true:=zdx.2 (Bl.stay (x:=knX) (y:=knY) (h:=⟨knB,1,zmj⟩) (List.mem_cons_self ..) rfl (by decide) (List.mem_cons_of_mem _ (List.mem_cons_self ..)) rfl (by decide) (by kernel_rfl) rfl)
theorem kn_blB:blB knH [knX,knY] knB=false:=by
 have key:∀ p,Bl knH [knX,knY] p→p=knA:=by
  intro p h;have go:∀ x:Syn,x∈[knX,knY]→z3t x.kind=false→x.path=knA:=fun x hx hk=>by
   simp only[List.mem_cons,List.not_mem_nil,or_false] at hx
   rcases hx with rfl | rfl
   ·rfl
   ·exact absurd hk (by decide)
  cases h with
  | free hx hk=>exact go _ hx hk
  | stay hx hk=>exact go _ hx hk
  | next hx hk=>exact go _ hx hk
 cases hb:blB knH [knX,knY] knB with
 | false=>rfl
 | true=>exact absurd (key knB (zdx.1 hb)) (by decide)
theorem kn_plan:zet knH (zf5 knD (zfb 0) 1) [knB] []=[⟨5,knA,1,zmk,zmj⟩,knY]:=by
 rw[zml];unfold zet;rw[zmm];show [zdy _ knX,zdy _ knY]=_
 unfold zdy;rw[show blB knH [knX,knY] knX.path=true from kn_blA,show blB knH [knX,knY] knY.path=false from kn_blB];rfl
theorem kn_plOk {es:List zcv}(he:es.map zcv.pl=zfo 0):PlOk knD es:=
 ⟨by decide,by decide +kernel,by decide +kernel,(zfw (by decide) he).1,(zfc 0).of_congr (zfw (by decide) he).2⟩
theorem kn_fwd {es:List zcv}(he:es.map zcv.pl=zfo 0):zf5 knD (zdc es) 1=zf5 knD (zfb 0) 1:=zfx (zfw (by decide) he).2
theorem znr {l r:Pat}(h:z9i l r=0):z7g l=0∧z7g r=0∧z9c l=z9c r∧l.rest=r.rest:=by
 unfold z9i at h;by_cases h1:z7g l=0
 ·by_cases h2:z7g r=0
  ·by_cases h3:z9c l=z9c r∧l.rest=r.rest
   ·exact⟨h1,h2,h3⟩
   ·rw[if_neg (by simp [h1]),if_neg (by simp [h2]),if_pos (by
     by_cases h4:z9c l=z9c r
     ·exact .inr fun h5=>h3 ⟨h4,h5⟩
     ·exact .inl h4)] at h
    cases h
  ·rw[if_neg (by simp [h1]),if_pos h2] at h;cases h
 ·rw[if_pos h1] at h;cases h
def symB (p q:Pat):Bool:=(List.range (za1 p q).parts.length).all fun k=>z9u (((za0 p q).parts[k]?).getD z2q) (((za1 p q).parts[k]?).getD z2q) || !z9u (((za1 p q).parts[k]?).getD z2q) (((za0 p q).parts[k]?).getD z2q)
theorem zns {p q:Pat}(h:symB p q=true):zn4 p q:=by
 unfold symB at h;intro k hx hy hw;have:=List.all_eq_true.1 h k (List.mem_range.2 hy);rw[List.getElem?_eq_getElem hx,List.getElem?_eq_getElem hy] at this;simp only[Option.getD_some] at this
 rw[hw] at this;simpa using this
def oneB (x:zfl):Bool:=match x.hs with
 | []=>true
 | [h]=>match za2 x.l h with
  | none=>false
  | some m=>symB x.l h && symB x.r (zcj x.l x.r m)
 | _=>false
def refB (es:List zfl):Bool:=(es.all oneB) && (List.range es.length).all fun i=>(List.range i).all fun j=>match es[i]?,es[j]? with
 | some x,some y=>symB x.l y.l && symB x.r y.r
 | _,_=>false
theorem znt:∀ k<8,refB (zfo k)=true:=by decide +kernel
structure znu (es:List zcv):Prop where
 map:zd2 es
 one:∀ x∈es,x.hs=[]∨∃ q m,x.hs=[q]∧zck x.l.1 x.r.1 q.1 m∧zn4 x.l.1 q.1∧zn4 x.r.1 (zcj x.l.1 x.r.1 m)
 sym:∀(i j:Nat) (hi:i<es.length) (hj:j<i),zn4 es[i].l.1 (es[j]'(Nat.lt_trans hj hi)).l.1∧zn4 es[i].r.1 (es[j]'(Nat.lt_trans hj hi)).r.1
theorem znv {es:List zcv}{k:Nat}(hk:k<8)(h:es.map zcv.pl=zfo k):znu es:=by
 have hM:=(zfw hk h).1.map;have hB:=znt k hk;rw[← h] at hB;unfold refB at hB;simp only[Bool.and_eq_true,List.all_eq_true,List.mem_range,List.length_map,List.mem_map,forall_exists_index,and_imp,forall_apply_eq_imp_iff₂] at hB
 obtain⟨h1,h2⟩:=hB;refine⟨hM,fun x hx=>?_,fun i j hi hj=>?_⟩
 ·have ho:=h1 x hx;have hn:=(hM.ok x hx).nar;obtain⟨xl,xr,hv,hs⟩:=x;match hs,ho,hn with
  | [],_,_=>exact .inl rfl
  | [q],ho,hn =>
   obtain⟨m,hm⟩:=hn q (List.mem_cons_self ..);refine .inr ⟨q,m,rfl,hm,?_⟩;unfold oneB zcv.pl at ho;simp only[List.map_cons,List.map_nil] at ho
   have e:za2 xl.1 q.1=some m:=hm.meet;rw[e] at ho;simp only[Bool.and_eq_true] at ho
   exact⟨zns ho.1,zns ho.2⟩
  | _ :: _ :: _,ho,_=>exact absurd ho (by simp [oneB,zcv.pl])
 ·have:=h2 i hi j hj;rw[List.getElem?_map,List.getElem?_map,List.getElem?_eq_getElem hi,List.getElem?_eq_getElem (Nat.lt_trans hj hi)] at this;simp only[Option.map_some,Bool.and_eq_true] at this
  exact⟨zns this.1,zns this.2⟩
theorem znw (es:List zcv)(v:Value)(w:World)(hE:zd1 w v es)(hM:znu es):
  Calls prog 7 #[v] w fun e w'=>e=.returned (.tuple #[.int .i64 0,.int .i64 0])∧zB w w':=by
 obtain⟨A,c,rfl,-⟩:=id hE.1;have hR:∀ x∈es,∀ X,zB w X→Calls prog 31 #[x.val] X (znd X x.r.v x.r.1.rest):=by
  intro x hx X hX;have hI:=(hE.2 x hx).below hX;have hO:=hM.one x hx;obtain⟨H,hc,hhv⟩:=hI.holes;obtain⟨⟨pl,Al,cl⟩,⟨pr,Ar,cr⟩,hv,hs⟩:=x;change hv=.slice H hs.length hc at hhv;subst hhv;rcases hO with ho | ⟨q,m,ho,hn,hs1,hs2⟩
  ·change hs=[] at ho;subst ho;exact zne Al Ar H pl.parts.length pr.parts.length cl cr hc pl.rest pr.rest X
  ·change hs=[q] at ho;subst ho;obtain⟨ad,rfl,hab,s0,s1⟩:=zcp.at_ (k:=0) hI.h (by simp)
   have hq:=hI.h.2 q (List.mem_cons_self ..);obtain⟨q,B,b⟩:=q;have hcc:1≤hc:=by
    obtain⟨A',c',e,h1,-⟩:=hI.h.1;injection e with e1 e2 e3
    subst e3;exact h1
   have e0:ad.add (0 * 2)=ad:=by unfold Addr.add;simp
   rw[e0] at s0 s1;exact znf pl pr q m Al B Ar cl b cr ad hc X hI.l hI.r hq hn hs1 hs2 rfl hcc s0 s1
 refine znj w A c es _ hE hM.map.len (fun x hx X hX=>?_) (fun x hx X hX=>?_) hR (fun T hT W hW=>rcT16 T hT _ W A c es (hE.below hW) hM.map.len (fun i j hi hj=>⟨hM.map.apart i j hi hj,hM.sym i j hi hj⟩) (fun x hx X hX=>hR x hx X (z0r hW hX)) (fun w' hb=>⟨rfl,z0r hW hb⟩))
 ·have hI:=(hE.2 x hx).below hX;obtain⟨h1,h2,h3,h4⟩:=znr (hM.map.ok x hx).rule;obtain⟨⟨pl,Al,cl⟩,⟨pr,Ar,cr⟩,hv,hs⟩:=x;exact zmw false pl pr Al Ar cl cr X hI.l hI.r h1 h2 h3 h4
 ·have hI:=(hE.2 x hx).below hX;have hg:=(hM.map.ok x hx).reg;obtain⟨H,hc,hhv⟩:=hI.holes;obtain⟨⟨pl,Al,cl⟩,⟨pr,Ar,cr⟩,hv,hs⟩:=x;change hv=.slice H hs.length hc at hhv;subst hhv;have:=zn6 pl hs Al H cl hc X hI.l hI.h (Nat.le_trans hI.n (by decide))
  rw[show zcq pl hs=0 from hg] at this;exact this
theorem znx (es:List zcv)(v:Value)(p:ByteArray)(w:World)(he:Env w)(hE:zd1 w v es)(hM:znu es)(hF:zdd es p)(hz:p.size≤1000000):
  Calls prog 38 #[v,.string p] w (zbi w (zdc es p)):=by
 refine zni es v p w he hE hM.map.len hz (znw es v w hE hM) fun x hx X hX=>?_;have hI:=(hE.2 x hx).below hX;obtain⟨h1,h2,h3,h4⟩:=znr (hM.map.ok x hx).rule;have hf:=hF x hx;obtain⟨⟨pl,Al,cl⟩,⟨pr,Ar,cr⟩,hv,hs⟩:=x;exact zmx false pl pr p Al Ar cl cr X (he.below hX) hz hI.l hI.r h1 h2 h3 h4 hf (fun Y caps cv hY hc hfo=>znq pr caps Ar cr cv Y ((he.below hX).below hY) (hI.r.below hY) hc hfo)
theorem zo0 {D:List Rev}{f:ByteArray→Option ByteArray}{m:Int}{p:ByteArray}{n:Nat}(h:zm7 D n):
  (decide (0<(rAt D p m).num)=false→zf4 D f m p=none)∧(decide (0<(rAt D p m).num)=true→(f p=none→zf4 D f m p=none)∧(z30 (rAt D p m).act=false→zf4 D f m p=none)∧∀ s,f p=some s→z30 (rAt D p m).act=true→zf4 D f m p=some ⟨p,(rAt D p m).num,s⟩):=by
 obtain⟨h1,h2⟩:=dp_at h p m;unfold zf4;cases hg:z36 D p (fun v=>decide (v.chg≤m)) with
 | none =>
  rw[hg] at h2;refine⟨fun _=>rfl,fun h3=>?_⟩;rw[h3] at h2;cases h2
 | some r =>
  rw[hg] at h1 h2;have h1:r=rAt D p m:=h1;subst h1;refine⟨fun h3=>(by rw[h3] at h2;cases h2),fun _=>⟨fun e=>(by simp only;rw[e];split <;> rfl),fun e=>(by simp only;rw[if_neg (by rw[e];decide)]),fun s e1 e2=>(by simp only;rw[if_pos e2,e1];rfl)⟩⟩
def RwPost (w:World)(l:List Hav)(e:Ending)(w':World):Prop:=∃ v,e=.returned (.tuple #[v,.int .i64 0])∧w'.ownsRow w.heap.size 96 3 v l.length (l.flatMap Hav.cells)∧zB w w'
theorem zo1 (D:List Rev)(n:Nat)(es:List zcv)(m:Int)(dv dr mv:Value)(w:World)(he:Env w)(hR:z4c w dv D)(hE:zd1 w mv es)(hD:zm7 D n)(hl:D.length≤1000)(hM:znu es)(hS:zfd es)(hf:zf3 (zdc es)):
  Calls prog 9 #[.agg #[dv,dr],mv,.int .i64 m] w (RwPost w (zf5 D (zdc es) m)):=by
 obtain⟨Ar,cr,rfl,-⟩:=id hR;have hBox:=z0l w [.slice Ar D.length cr,dr] 27;have hA:zB w (w.alloc (.cells #[.slice Ar D.length cr,dr] 27)):=(Below.refl _ _).alloc (Nat.le_refl _) _;have HCK:=hd_ (fun X (hX:zB w X)=>znw es mv X (hE.below hX) hM);have HAT:=hd_ (fun X (hX:zB w X) p=>zgs D p m (.slice Ar D.length cr) dr X (hR.below hX) (by omega))
 have HFW:=hd_ (fun X (hX:zB w X) p (hp:p∈zf0)=>znx es mv p X (he.below hX) (hE.below hX) hM (hS.fits p hp) (zfe p hp).2);have HEV:=hd_ (fun X (hX:zB w X)=>he.below hX);have HRV:=hd_ (fun X (hX:zB w X)=>hR.below hX);have HSM:=hd_ hS.small;have HDP:=hd_ hD;have HEND:=hd_ (fun out (h:zle D (zdc es) m D.length out)=>zlh h (zm9 hD) hf);have HA:=hd_ hA;have HBX:=hd_ hBox;generalize zf5 D (zdc es) m=WL at HEND ⊢;clear he hR hE hS hM hD hf hA hBox;go_enter func9,ntmps9;go_upto_region 1 with fail;generalize w.alloc (.cells #[.slice Ar D.length cr,dr] 27)=W1 at HA HBX ⊢;have HC1:=hd_ (HCK.out W1 HA.out);go_wp2_with fail;refine HC1.out.mono ?_;rintro e w2 ⟨rfl,hb⟩;dsimp only;have HB2:=hd_ (z0r HA.out hb);have HBX2:=hd_ (HBX.out.below hb HBX.out.lt);clear hb HCK HC1;have d0:w2.cell? ⟨w.heap.size,0,none⟩=some (.slice Ar D.length cr):=HBX2.out.cell 0;go_wp2_with fail;go_loopw [10,11] (fun lv i wr=>∃(k:Nat) (out:List Hav) (A:Option Addr) (c:Nat),lv=.slice A out.length c∧i=.int .i64 k∧k≤D.length∧Hid (zle D (zdc es) m k out∧zB w2 wr∧wr.ownsRow w2.heap.size 96 3 (.slice A out.length c) out.length (out.flatMap Hav.cells))) (fun _ i _=>D.length - (intOf i).toNat)
 case atStart=>exact⟨0,[],none,0,rfl,rfl,Nat.zero_le _,hd_ ⟨refW_0 _ _ _,Below.refl _ _,World.ownsRow_nil _ _ _ _⟩⟩
 case round =>
  obtain⟨k,out,A,c,rfl,rfl,hk,HI⟩:=hrel;clear d0;have HBD:=hd_ (HBX2.out.below HI.out.2.1 HBX2.out.lt);have d0:wr.cell? ⟨w.heap.size,0,none⟩=some (.slice Ar D.length cr):=HBD.out.cell 0;have d1:wr.cell? ⟨w.heap.size,1,none⟩=some dr:=HBD.out.cell 1;have HBW:=hd_ (z0r HB2.out HI.out.2.1);by_cases hlt:k<D.length
  ·obtain⟨ad,rfl,hab,hc⟩:=(HRV.out wr HBW.out).at_ hlt;have HNO:=hd_ (fun h=>refW_no HI.out.1 hlt h);have HPT:=hd_ (fun x h=>zlg (x:=x) HI.out.1 hlt HDP.out.six h);have H6:=hd_ (HDP.out.six _ (List.getElem_mem hlt));generalize D[k]=r at hc HNO HPT H6;obtain⟨c0,-⟩:=hc;have HT1:=hd_ (HAT.out wr HBW.out r.path);have HWC:=hd_ (zo0 (f:=zdc es) (m:=m) (p:=r.path) HDP.out);have HFP:=hd_ (fun X (hX:zB w X)=>HFW.out X hX r.path H6.out);have HSP:=hd_ (HSM.out r.path H6.out);have HLT:=hd_ hlt;generalize rAt D r.path m=v at HT1 HWC;generalize hbo:decide (0<v.num)=bo at HT1 HWC;generalize zdc es r.path=o at HFP HSP HWC;clear hab hbo hlt;go_wp2_with fail;refine HT1.out.mono ?_;rintro e w3 ⟨rfl,hb⟩;dsimp only;have HV:=hd_ (z0l w3 [.string v.path,.int .i64 v.num,.int .i64 v.chg,.int .i64 v.act,.int .i64 v.ty.base,.bool v.ty.k,.bool v.ty.l,.bool v.ty.x,.int .u64 v.sum,.int .i64 v.size,.string v.frm,.int .i64 v.fnum] 90);have hb4:=z0r hb ((Below.refl w3.heap.size w3).alloc (Nat.le_refl _) (.cells #[.string v.path,.int .i64 v.num,.int .i64 v.chg,.int .i64 v.act,.int .i64 v.ty.base,.bool v.ty.k,.bool v.ty.l,.bool v.ty.x,.int .u64 v.sum,.int .i64 v.size,.string v.frm,.int .i64 v.fnum] 90));have HB4:=hd_ (z0r HBW.out hb4);have HL4:=hd_ (z0r HI.out.2.1 hb4);have HO4:=hd_ (z0n HI.out.2.2 hb4);have HRF:=hd_ HI.out.1;clear hb hb4 c0 d0 d1 HT1 HI;go_upto_region 10 with fail;generalize w3.alloc (.cells #[.string v.path,.int .i64 v.num,.int .i64 v.chg,.int .i64 v.act,.int .i64 v.ty.base,.bool v.ty.k,.bool v.ty.l,.bool v.ty.x,.int .u64 v.sum,.int .i64 v.size,.string v.frm,.int .i64 v.fnum] 90)=W4 at HV HB4 HL4 HO4 ⊢;generalize w3.heap.size=g4 at HV ⊢;have HFC:=hd_ (HFP.out W4 HB4.out);go_wp2_with fail;refine HFC.out.mono ?_;rintro e w5 ⟨rfl,hb⟩;dsimp only;have HV5:=hd_ (HV.out.below hb HV.out.lt);have HB5:=hd_ (z0r HB4.out hb);have HL5:=hd_ (z0r HL4.out hb);have HO5:=hd_ (z0n HO4.out hb);clear hb HFC HV;cases bo with
   | false =>
    have HN:=hd_ (HNO.out (HWC.out.1 rfl));go_wp2_with fail;go_roundw
    case rel=>exact⟨k+1,out,_,_,rfl,by go_num,HLT.out,hd_ ⟨HN.out,HL5.out,HO5.out⟩⟩
    case measure=>have:=HLT.out;simp [intOf];omega
   | true =>
    have HW2:=hd_ (HWC.out.2 rfl);clear HWC;cases o with
    | none =>
     have HN:=hd_ (HNO.out (HW2.out.1 rfl));go_wp2_with fail;go_roundw
     case rel=>exact⟨k+1,out,_,_,rfl,by go_num,HLT.out,hd_ ⟨HN.out,HL5.out,HO5.out⟩⟩
     case measure=>have:=HLT.out;simp [intOf];omega
    | some s =>
     have HGO:=hd_ (zhh v w5);obtain⟨y0,y1,y2,y3,y4,y5,y6,y7,y8,y9,y10,y11⟩:=z81 HV5.out;have hs200:=HSP.out s rfl;cases hlv:z30 v.act with
     | false =>
      have HN:=hd_ (HNO.out (HW2.out.2.1 hlv));rw[hlv] at HGO;clear hlv hs200;go_wp2_with fail;refine HGO.out.mono ?_;rintro e w6 ⟨rfl,hb⟩;dsimp only;have HL6:=hd_ (z0r HL5.out hb);have HO6:=hd_ (z0n HO5.out hb);clear hb y0 y1 y2 y3 y4 y5 y6 y7 y8 y9 y10 y11;go_wp2_with fail;go_roundw
      case rel=>exact⟨k+1,out,_,_,rfl,by go_num,HLT.out,hd_ ⟨HN.out,HL6.out,HO6.out⟩⟩
      case measure=>have:=HLT.out;simp [intOf];omega
     | true =>
      have HN:=hd_ (HPT.out _ (HW2.out.2.2 s rfl hlv));rw[hlv] at HGO;clear hlv;go_wp2_with fail;refine HGO.out.mono ?_;rintro e w6 ⟨rfl,hb⟩;dsimp only;have HV6:=hd_ (HV5.out.below hb HV5.out.lt);have HB6:=hd_ (z0r HB5.out hb);have HL6:=hd_ (z0r HL5.out hb);have HO6:=hd_ (z0n HO5.out hb);have HPU:Hid (Calls prog 40 #[.slice A out.length c,.agg #[.string r.path,.int .i64 v.num,.string s]] w6 (zny w6 (zl6 out ⟨r.path,v.num,s⟩))):=hd_ (znz out _ ⟨r.path,v.num,s⟩ w6 (HEV.out w6 HB6.out) (Row.of_own HO6.out) (fun x hx=>zfe _ (HRF.out.2.1 x hx)) (zfe _ H6.out).1 (zfe _ H6.out).2 (by have:=zli HRF.out;omega))
      have y1:=HV6.out.cell 1;have z200:¬(200<(s.size:Int)):=by omega
      clear hb y0 y2 y3 y4 y5 y6 y7 y8 y9 y10 y11;go_wp2_with fail;refine HPU.out.mono ?_;rintro e w7 ⟨v7,rfl,hown,hb⟩;dsimp only;obtain⟨A7,c7,rfl⟩:=z0o hown;have HL7:=hd_ (z0r HL6.out hb);have HO7:=hd_ (z4v hown HL6.out.size);clear hb hown y1 z200;go_wp2_with fail;go_roundw
      case rel=>exact⟨k+1,zl6 out ⟨r.path,v.num,s⟩,A7,c7,rfl,by go_num,HLT.out,hd_ ⟨HN.out,HL7.out,HO7.out⟩⟩
      case measure=>have:=HLT.out;simp [intOf];omega
  ·have hke:k=D.length:=by omega
   subst hke;have hge:¬((D.length:Int)<(D.length:Int)):=by omega
   have HB:=hd_ HBW.out;have HO:=hd_ (z4v HI.out.2.2 HB2.out.size);have e:=HEND.out out HI.out.1;subst e;go_wp2_with fail;go_ret2;exact⟨_,rfl,HO.out,HB.out⟩
open Go.Sort (grow)
theorem zp2 {x:Syn}{y:Hav}(h:y∈z4y x):y.path=x.path∧y.loc=x.dst:=by
 unfold z4y at h;split at h
 ·cases h
 ·rw[List.mem_singleton] at h;subst h;exact⟨rfl,rfl⟩
theorem zp3 {x:Syn}{y:Hav}(h:y∈z4z x):y.path=x.path∧y.loc=x.dst:=by
 unfold z4z at h;split at h
 ·cases h
 ·exact zp2 h
theorem zp4 {p:ByteArray}{l:List Syn}{x:Syn}(h:x∈z52 p l):x∈l:=by
 induction l with
 | nil=>exact h
 | cons z r ih =>
  rw[z52] at h;split at h
  ·exact List.mem_cons_of_mem _ (ih h)
  ·exact h
theorem zp5 {e:Hav}{l:List Syn}{x:Syn}(h:x∈z55 e l):x∈l:=by
 cases l with
 | nil=>exact h
 | cons z r =>
  rw[z55] at h;split at h
  ·exact List.mem_cons_of_mem _ h
  ·exact h
theorem zp6 {p:ByteArray}{l:List Syn}{y:Hav}(h:y∈z50 p l):∃ x∈l,y.path=x.path∧y.loc=x.dst:=by
 induction l with
 | nil=>cases h
 | cons z r ih =>
  rw[z50] at h;split at h
  ·rcases List.mem_append.1 h with h | h
   ·exact⟨z,List.mem_cons_self,zp3 h⟩
   ·obtain⟨x,hx,e⟩:=ih h;exact⟨x,List.mem_cons_of_mem _ hx,e⟩
  ·cases h
theorem zp7 {e:Hav}{l:List Syn}{y:Hav}(h:y∈z54 e l):y=e∨∃ x∈l,y.path=x.path∧y.loc=x.dst:=by
 cases l with
 | nil=>rw[z54,List.mem_singleton] at h;exact .inl h
 | cons z r =>
  rw[z54] at h;split at h
  ·split at h
   ·rw[List.mem_singleton] at h;exact .inl h
   ·exact .inr ⟨z,List.mem_cons_self,zp2 h⟩
  ·rw[List.mem_singleton] at h;exact .inl h
theorem zp8:∀ {hs:List Hav} {ps:List Syn} {y:Hav},y∈z56 hs ps→y∈hs∨∃ x∈ps,y.path=x.path∧y.loc=x.dst
 | [],ps,y,h=>by
  rw[z56] at h;obtain⟨x,hx,e⟩:=List.mem_flatMap.1 h;exact .inr ⟨x,hx,zp3 e⟩
 | e :: hs,ps,y,h=>by
  rw[z56] at h;rcases List.mem_append.1 h with h | h
  ·rcases List.mem_append.1 h with h | h
   ·exact .inr (zp6 h)
   ·rcases zp7 h with rfl | ⟨x,hx,e⟩
    ·exact .inl List.mem_cons_self
    ·exact .inr ⟨x,zp4 hx,e⟩
  ·rcases zp8 h with h | ⟨x,hx,e⟩
   ·exact .inl (List.mem_cons_of_mem _ h)
   ·exact .inr ⟨x,zp4 (zp5 hx),e⟩
theorem zp9 (hs:List Hav)(ss:List Syn)(hv pv:Value)(w:World)(hH:z4h w hv hs)(hS:z57 w pv ss)
  (hz:∀ x∈hs,x.path.size≤2000000∧x.loc.size≤2000000) (hz2:∀ x∈ss,x.path.size≤2000000∧x.dst.size≤2000000) (hl:hs.length+2 * ss.length+1≤1000000):
  Calls prog 20 #[hv,pv] w fun e w'=>e=.returned (.int .i64 (zik hs ss))∧zB w w':=
 zir hs ss hv pv w hH hS hz hz2 (fun y hy=>by
   rcases zp8 hy with h | ⟨x,hx,e1,e2⟩
   ·exact hz y h
   ·rw[e1,e2];exact hz2 x hx) (by omega)
  (fun X hX=>zj6 hs ss hv pv X (hH.below hX) (hS.below hX) (fun x hx=>(hz x hx).1) (fun x hx=>(hz2 x hx).1) hl)
theorem zpa (hs:List Hav)(ss:List Syn)(hv pv:Value)(w:World)(hH:z4h w hv hs)(hS:z57 w pv ss)
  (hz:∀ x∈hs,x.path.size≤2000000∧x.loc.size≤2000000) (hz2:∀ x∈ss,x.path.size≤2000000∧x.dst.size≤2000000) (hl:hs.length+2 * ss.length+1≤1000000):
  Calls prog 18 #[hv,pv] w fun e w'=>∃ v,e=.returned (.tuple #[v,.int .i64 (zik hs ss)])∧z4h w' v (if zik hs ss=0 then z56 hs ss else [])∧zB w w':=by
 have HC:=hd_ (zp9 hs ss hv pv w hH hS hz hz2 hl);have HR:=hd_ (fun X (hX:zB w X)=>zj6 hs ss hv pv X (hH.below hX) (hS.below hX) (fun x hx=>(hz x hx).1) (fun x hx=>(hz2 x hx).1) hl);obtain⟨Ah,ch,rfl,-⟩:=id hH;obtain⟨A1,c1,rfl,-⟩:=id hS;clear hH hS hz hz2 hl;generalize zik hs ss=ce at HC ⊢;by_cases he:ce=0
 ·subst he;rw[if_pos rfl];go_enter func18,ntmps18;go_wp2_with fail;refine HC.out.mono ?_;rintro e w1 ⟨rfl,hb1⟩;have HR1:=hd_ (HR.out w1 hb1);have HB1:=hd_ hb1;clear hb1;go_wp2_with fail;refine HR1.out.mono ?_;rintro e w2 ⟨v,rfl,hv,hb2⟩;have HV:=hd_ hv;have HB2:=hd_ (z0r HB1.out hb2);clear hv hb2;go_wp2_with fail;go_ret2;exact⟨_,rfl,HV.out,HB2.out⟩
 ·rw[if_neg he];have n0:(ce == 0)=false:=beq_eq_false_iff_ne.2 he;have n1:(ce != 0)=true:=by rw[bne,n0];rfl
  clear he;go_enter func18,ntmps18;go_wp2_with fail;refine HC.out.mono ?_;rintro e w1 ⟨rfl,hb1⟩;have HB1:=hd_ hb1;clear hb1;go_wp2_with fail;go_ret2;exact⟨_,rfl,Row.nil_ _ _,HB1.out⟩
theorem zq2 {F:ByteArray→Option ByteArray}:∀(l:List Syn) (q:Option Syn) (i:Nat) (hi:i<l.length),(zi5 l[i] ((F l[i].path).getD z2q)=false∨∃ h:0<i,0≤z2z (l[i - 1]'(by omega)).path l[i].path)→zih F q l=true
 | [],_,i,hi,_=>absurd hi (by simp)
 | x :: r,q,0,hi,h=>by
  rcases h with h | ⟨h,-⟩
  ·have h:zi5 x ((F x.path).getD z2q)=false:=h;rw[zih,h,if_pos (by simp)]
  ·omega
 | x :: r,q,i+1,hi,h=>by
  rw[zih];split
  ·rfl
  ·cases i with
   | zero =>
    cases r with
    | nil=>simp at hi
    | cons y r =>
     have h:zi5 y ((F y.path).getD z2q)=false∨∃ h:0<1,0≤z2z x.path y.path:=h;rcases h with h | ⟨-,h⟩
     ·rw[zih,h,if_pos (by simp)]
     ·have hp:zig (some x) y=true:=decide_eq_true h;rw[zih,hp,if_pos (by simp)]
   | succ i=>exact zq2 r (some x) (i+1) (by simpa using hi) (h.imp id fun ⟨_,h2⟩=>⟨Nat.succ_pos _,h2⟩)
theorem bad_fit {hs:List Hav}{ps:List Syn}(h1:zek hs)(h:∀ i (hi:i<ps.length),zpx hs ps i hi):zih (zii hs) none ps=false:=by
 refine zmg none ps (zpz h).1 (fun y e=>by cases e) fun x hx=>?_
 rw[zmf h1];obtain⟨i,hi,rfl⟩:=List.getElem_of_mem hx;exact (h i hi).fit
theorem bad_not {hs:List Hav}{ps:List Syn}(h1:zek hs){i:Nat}(hi:i<ps.length)(h:zi5 ps[i] (zjg hs ps[i].path)=false∨∃ h:0<i,0≤z2z (ps[i - 1]'(by omega)).path ps[i].path):zih (zii hs) none ps=true:=
 zq2 ps none i hi (by rw[zmf h1];exact h)
theorem zq3 {hs:List Hav}{ps:List Syn}(h:¬ z4m hs=0):zik hs ps=350:=zil h
theorem zq4 {hs:List Hav}{ps:List Syn}(h:z4m hs=0){i:Nat}(hi:i<ps.length)(hb:zi5 ps[i] (zjg hs ps[i].path)=false∨∃ h:0<i,0≤z2z (ps[i - 1]'(by omega)).path ps[i].path):zik hs ps=351:=by
 rw[zim h,bad_not (zep.1 h).1 hi hb];rfl
theorem zq5 {hs:List Hav}{ps:List Syn}(h:z4m hs=0)(hf:∀ i (hi:i<ps.length),zpx hs ps i hi):zik hs ps=if z4m (z56 hs ps)=0 then 0 else 351:=by
 rw[zim h,bad_fit (zep.1 h).1 hf];rfl
theorem zq6 (hs:List Hav)(p:ByteArray):((z64 Hav.path hs p).getD zo2).loc=zjg hs p:=by
 unfold zjg;show _=((z64 Hav.path hs p).map Hav.loc).getD z2q
 cases z64 Hav.path hs p <;> rfl
def fitA (x:Syn)(l:ByteArray):Bool:=z3v x.path && decide (x.frm=l) && !(decide (x.dst≠z2q) && !z3v x.dst) && !(decide (x.frm=z2q) && decide (x.dst=z2q))
def fitB (x:Syn):Bool:=if x.dst=z2q then decide (x.num=0) else decide (1≤x.num)
theorem fit_ab (x:Syn)(l:ByteArray):zi5 x l=(fitA x l && fitB x && (z3t x.kind || x.kind == z3u x.frm x.dst)):=by
 unfold zi5 fitA fitB;by_cases h1:x.dst=z2q
 ·simp only[h1,if_pos,decide_true,Bool.and_true,ne_eq,not_true_eq_false,decide_false,Bool.false_and,Bool.not_false]
 ·simp only[h1,if_neg,decide_false,Bool.and_false,Bool.not_false,Bool.and_true,ne_eq,not_false_eq_true,decide_true,Bool.true_and,Bool.not_not,if_false]
  cases z3v x.path <;> cases decide (x.frm=l) <;> cases z3v x.dst <;> cases decide (1≤x.num) <;> simp
theorem zq7 (hs:List Hav)(x:Syn)(hv:Value)(w:World)(he:Env w)(hH:z4h w hv hs)(hl:hs.length≤1000000)(h1:x.path.size≤2000000)(h2:x.dst.size≤2000000):
  Calls prog 99 #[hv,.agg #[.int .i64 x.kind,.string x.path,.int .i64 x.num,.string x.frm,.string x.dst]] w fun e w'=>e=.returned (.bool (zi5 x (zjg hs x.path)))∧zB w w':=by
 obtain⟨Ah,ch,rfl,-⟩:=id hH;have hA:zB w (w.alloc (.cells #[.int .i64 x.kind,.string x.path,.int .i64 x.num,.string x.frm,.string x.dst] 50)):=(Below.refl _ _).alloc (Nat.le_refl _) _;have HB0:=hd_ (z0l w [.int .i64 x.kind,.string x.path,.int .i64 x.num,.string x.frm,.string x.dst] 50);have HG:Hid (Calls prog 94 #[.slice Ah hs.length ch,.string x.path] (w.alloc (.cells #[.int .i64 x.kind,.string x.path,.int .i64 x.num,.string x.frm,.string x.dst] 50)) fun e w'=>e=.returned (.tuple #[.agg #[.string (((z64 Hav.path hs x.path).getD zo2)).path,.int .i64 (((z64 Hav.path hs x.path).getD zo2)).num,.string (((z64 Hav.path hs x.path).getD zo2)).loc],.bool (z64 Hav.path hs x.path).isSome])∧Below (w.alloc (.cells #[.int .i64 x.kind,.string x.path,.int .i64 x.num,.string x.frm,.string x.dst] 50)).heap.size (w.alloc (.cells #[.int .i64 x.kind,.string x.path,.int .i64 x.num,.string x.frm,.string x.dst] 50)) w'):=hd_ (zo5 hs (.slice Ah hs.length ch) x.path _ (hH.below hA) hl);have hzl:=zq6 hs x.path;have HP1:=hd_ (fun X (hX:zB w X)=>zpl x.path X (he.below hX) h1);have HP2:=hd_ (fun X (hX:zB w X)=>zpl x.dst X (he.below hX) h2);have HFB:=hd_ (fit_ab x (zjg hs x.path));generalize (z64 Hav.path hs x.path).getD zo2=z at HG hzl;generalize (z64 Hav.path hs x.path).isSome=bz at HG;rw[← hzl] at HFB ⊢;obtain⟨z0,z1,z2,z3,z4⟩:=z3w (x:=x) HB0.out;have HA:=hd_ hA;clear hA hH he h1 h2 hzl;go_enter func99,ntmps99;go_wp2_with fail;refine HG.out.mono ?_;rintro e w2 ⟨rfl,hb⟩;dsimp only;have hA2:zB w2 (w2.alloc (.cells #[.string z.path,.int .i64 z.num,.string z.loc] 96)):=(Below.refl _ _).alloc (Nat.le_refl _) _;have HB3:=hd_ ((HB0.out.below hb HB0.out.lt).alloc (.cells #[.string z.path,.int .i64 z.num,.string z.loc] 96));have HZ3:=hd_ (z0l w2 [.string z.path,.int .i64 z.num,.string z.loc] 96);have HA3:=hd_ (z0r (z0r HA.out hb) hA2);clear hb hA2 z0 z1 z2 z3 z4 HG HB0 HA;go_upto_region 2 with fail;generalize w2.alloc (.cells #[.string z.path,.int .i64 z.num,.string z.loc] 96)=W3 at HB3 HZ3 HA3 ⊢
 generalize w2.heap.size=g3 at HZ3 ⊢;obtain⟨z0,z1,z2,z3,z4⟩:=z3w (x:=x) HB3.out;have HC:=hd_ (HP1.out W3 HA3.out);go_wp2_with fail;refine HC.out.mono ?_;rintro e w4 ⟨rfl,hb⟩;have HB4:=hd_ (HB3.out.below hb HB3.out.lt);have HZ4:=hd_ (HZ3.out.below hb HZ3.out.lt);have HA4:=hd_ (z0r HA3.out hb);clear hb z0 z1 z2 z3 z4 HB3 HZ3 HA3 HC HP1;obtain⟨z0,z1,z2,z3,z4⟩:=z3w (x:=x) HB4.out;obtain⟨y0,y1,y2⟩:=z3x (x:=z) HZ4.out;cases hp:z3v x.path
 ·have HR:Hid (zi5 x z.loc=false):=hd_ (by rw[HFB.out];unfold fitA;rw[hp];rfl)
  clear hp;go_wp2_with fail;go_ret;exact⟨z13 HR.out.symm,HA4.out⟩
 by_cases hf:x.frm=z.loc
 rotate_left
 ·have q1:(x.frm.toList == z.loc.toList)=false:=by rw[z42,decide_eq_false hf]
  have HR:Hid (zi5 x z.loc=false):=hd_ (by rw[HFB.out];unfold fitA;rw[decide_eq_false hf,Bool.and_false];rfl)
  clear hp hf;go_wp2_with fail;go_ret;exact⟨z13 HR.out.symm,HA4.out⟩
 have q1:(x.frm.toList == z.loc.toList)=true:=by rw[z42,decide_eq_true hf]
 have HAA:Hid (fitA x z.loc=(!(decide (x.dst≠z2q) && !z3v x.dst) && !(decide (x.frm=z2q) && decide (x.dst=z2q)))):=hd_ (by unfold fitA;rw[hp,decide_eq_true hf];simp only[Bool.true_and])
 have HFZ:=hd_ hf;clear hp hf;by_cases hd:x.dst=z2q
 focus
  obtain⟨s1,s2⟩:=z40 hd;by_cases he:x.frm=z2q
  ·obtain⟨t1,t2⟩:=z40 he;obtain⟨v1,v2⟩:=z40 (HFZ.out.symm.trans he);have HR:Hid (zi5 x z.loc=false):=hd_ (by rw[HFB.out,HAA.out,decide_eq_true he,decide_eq_true hd,Bool.and_self,Bool.not_true,Bool.and_false];rfl)
   clear hd he;go_wp2_with fail;go_ret;exact⟨z13 HR.out.symm,HA4.out⟩
  obtain⟨t1,t2⟩:=z41 he;have HA2:Hid (zi5 x z.loc=(fitB x && (z3t x.kind || x.kind == z3u x.frm x.dst))):=hd_ (by rw[HFB.out,HAA.out,decide_eq_false he,decide_eq_false (fun h=>h hd),Bool.false_and,Bool.false_and];simp only[Bool.not_false,Bool.true_and])
  have HFBB:Hid (fitB x=decide (x.num=0)):=hd_ (if_pos hd);clear hd he;by_cases hn:1≤x.num
  ·have n1:decide ((1:Int)≤x.num)=true:=decide_eq_true hn;have HR:Hid (zi5 x z.loc=false):=hd_ (by rw[HA2.out,HFBB.out,decide_eq_false (by omega)];rfl)
   clear hn;go_wp2_with fail;go_ret;exact⟨z13 HR.out.symm,HA4.out⟩
  have n1:decide ((1:Int)≤x.num)=false:=decide_eq_false hn;by_cases hn0:x.num=0
  rotate_left
  ·have n2:(x.num == 0)=false:=beq_eq_false_iff_ne.2 hn0;have n3:(x.num != 0)=true:=by rw[bne,n2];rfl
   have HR:Hid (zi5 x z.loc=false):=hd_ (by rw[HA2.out,HFBB.out,decide_eq_false hn0];rfl)
   clear hn hn0;go_wp2_with fail;go_ret;exact⟨z13 HR.out.symm,HA4.out⟩
  have n2:(x.num == 0)=true:=beq_iff_eq.2 hn0;have n3:(x.num != 0)=false:=by rw[bne,n2];rfl
  have HR:Hid (zi5 x z.loc=(z3t x.kind || x.kind == z3u x.frm x.dst)):=hd_ (by rw[HA2.out,HFBB.out,decide_eq_true hn0];rfl)
  clear hn hn0;have HA5:=hd_ HA4.out;have HB5:=hd_ HB4.out;go_upto_region 6 with fail;clear z0 z1 z2 z3 z4 y0 y1 y2;generalize w4=W5 at HA5 HB5 ⊢
 rotate_left
 focus
  obtain⟨s1,s2⟩:=z41 hd;have HC2:=hd_ (HP2.out w4 HA4.out);have HA2:Hid (zi5 x z.loc=(z3v x.dst && fitB x && (z3t x.kind || x.kind == z3u x.frm x.dst))):=hd_ (by rw[HFB.out,HAA.out,decide_eq_true hd,decide_eq_false hd,Bool.true_and,Bool.and_false];simp only[Bool.not_false,Bool.not_not,Bool.and_true])
  have HFBB:Hid (fitB x=decide (1≤x.num)):=hd_ (if_neg hd);clear hd;go_wp2_with fail;refine HC2.out.mono ?_;rintro e w5 ⟨rfl,hb⟩;have HB5:=hd_ (HB4.out.below hb HB4.out.lt);have HA5:=hd_ (z0r HA4.out hb);clear hb z0 z1 z2 z3 z4 y0 y1 y2 HC2;obtain⟨z0,z1,z2,z3,z4⟩:=z3w (x:=x) HB5.out;cases hp2:z3v x.dst
  ·have HR:Hid (zi5 x z.loc=false):=hd_ (by rw[HA2.out,hp2];rfl)
   clear hp2;go_wp2_with fail;go_ret;exact⟨z13 HR.out.symm,HA5.out⟩
  by_cases hn:1≤x.num
  rotate_left
  ·have n1:decide ((1:Int)≤x.num)=false:=decide_eq_false hn;have HR:Hid (zi5 x z.loc=false):=hd_ (by rw[HA2.out,HFBB.out,decide_eq_false hn,Bool.and_false];rfl)
   clear hn hp2;by_cases he:x.frm=z2q
   ·obtain⟨t1,t2⟩:=z40 he;obtain⟨v1,v2⟩:=z40 (HFZ.out.symm.trans he);clear he;go_wp2_with fail;go_ret;exact⟨z13 HR.out.symm,HA5.out⟩
   ·obtain⟨t1,t2⟩:=z41 he;clear he;go_wp2_with fail;go_ret;exact⟨z13 HR.out.symm,HA5.out⟩
  have n1:decide ((1:Int)≤x.num)=true:=decide_eq_true hn;have HR:Hid (zi5 x z.loc=(z3t x.kind || x.kind == z3u x.frm x.dst)):=hd_ (by rw[HA2.out,HFBB.out,hp2,decide_eq_true hn];rfl)
  clear hn hp2;by_cases he:x.frm=z2q
  focus
   obtain⟨t1,t2⟩:=z40 he;obtain⟨v1,v2⟩:=z40 (HFZ.out.symm.trans he);clear he;go_upto_region 6 with fail;clear z0 z1 z2 z3 z4;generalize w5=W5 at HA5 HB5 ⊢
  rotate_left
  focus
   obtain⟨t1,t2⟩:=z41 he;clear he;go_upto_region 6 with fail;clear z0 z1 z2 z3 z4;generalize w5=W5 at HA5 HB5 ⊢
 all_goals
  obtain⟨z0,z1,z2,z3,z4⟩:=z3w (x:=x) HB5.out;have m0:=cell_regrown z0;have m3:=cell_regrown z3;have m4:=cell_regrown z4;have cK:∀ d os,Calls prog 95 #[.string x.frm,.string x.dst] (grow (redrawn W5 d) os) fun e w''=>e=.returned (.int .i64 (z3u x.frm x.dst))∧∃ p:Regrown,w''=grow (redrawn W5 p.d) p.os:=fun d os=>Calls.regrown_of ((zpo x.frm x.dst (grow (redrawn W5 d) os)).mono fun e w' ⟨h1,h2⟩=>⟨h1,by subst h2;exact Below.refl _ _⟩)
  rcases z3y x.kind with⟨e1,e2,e3⟩ | ⟨e1,e2,e3,e4,e5⟩ | ⟨e1,e2,e3,e4,e5⟩
  ·have HRR:Hid (zi5 x z.loc=true):=hd_ (by rw[HR.out,e3];rfl)
   clear e3;go_wp2_with fail;refine wp_region_quiet_below (by kernel_rfl) (by kernel_rfl) ?_
   repeat (first | go_big_quiet_step (exact cK _ _) | quiet_step (exact cK _ _))
   refine wpQuiet_nil ?_;intro _ hw9;obtain⟨⟨dq,osq⟩,hw9⟩:=hw9;subst hw9;have HB9:=hd_ (z0q HA5.out HA5.out.size (below_regrown W5 dq osq));generalize grow (redrawn W5 dq) osq=W9 at HB9 ⊢;go_wp2_with fail;go_ret;exact⟨z13 HRR.out.symm,HB9.out⟩
  ·have HRR:Hid (zi5 x z.loc=true):=hd_ (by rw[HR.out,e5];rfl)
   clear e5;go_wp2_with fail;refine wp_region_quiet_below (by kernel_rfl) (by kernel_rfl) ?_
   repeat (first | go_big_quiet_step (exact cK _ _) | quiet_step (exact cK _ _))
   refine wpQuiet_nil ?_;intro _ hw9;obtain⟨⟨dq,osq⟩,hw9⟩:=hw9;subst hw9;have HB9:=hd_ (z0q HA5.out HA5.out.size (below_regrown W5 dq osq));generalize grow (redrawn W5 dq) osq=W9 at HB9 ⊢;go_wp2_with fail;go_ret;exact⟨z13 HRR.out.symm,HB9.out⟩
  ·have HRR:Hid (zi5 x z.loc=(x.kind == z3u x.frm x.dst)):=hd_ (by rw[HR.out,e5];rfl)
   clear e5;generalize z3u x.frm x.dst=kk at cK HRR;go_wp2_with fail;refine wp_region_quiet_below (by kernel_rfl) (by kernel_rfl) ?_
   repeat (first | go_big_quiet_step (exact cK _ _) | quiet_step (exact cK _ _))
   refine wpQuiet_nil ?_;intro _ hw9;obtain⟨⟨dq,osq⟩,hw9⟩:=hw9;subst hw9;have HB9:=hd_ (z0q HA5.out HA5.out.size (below_regrown W5 dq osq));generalize grow (redrawn W5 dq) osq=W9 at HB9 ⊢;go_wp2_with fail;go_ret;exact⟨z13 HRR.out.symm,HB9.out⟩
