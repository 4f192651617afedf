/- A part of the proof. -/
import Derived.Test.YtegeboijhifmcaaGreatDoorMgs34
import Derived.Test.YtegeboijhifmcaaGreatDoorMgs36
set_option linter.unusedVariables false
set_option linter.unusedSimpArgs false
set_option maxHeartbeats 8000000
set_option maxRecDepth 100000
namespace Go.Proofs.YtegeboijhifmcaaGreatDoor
open Go.Proofs.Tryz
open Go.RowKit
structure zmr (D:List Rev)(n:Nat):Prop where
 len:D.length≤n
 six:∀ r∈D,r.path∈zff
 num:∀ p (i:Nat) (h:i<(zgp D p).length),(zgp D p)[i].num=(i:Int)+1
theorem dp_nil:zmr [] 0:=⟨Nat.le_refl _,(fun r h=>by cases h),fun p i h=>by simp [zgp] at h⟩
theorem zms {D:List Rev}{n:Nat}(h:zmr D n)(p:ByteArray):(zec (zgs D p)).num=((zgp D p).length:Int):=by
 unfold zgs zec;rcases Nat.eq_zero_or_pos (zgp D p).length with h0 | h0
 ·rw[List.eq_nil_of_length_eq_zero h0];rfl
 ·rw[List.getLast?_eq_getElem?,List.getElem?_eq_getElem (by omega),Option.getD_some,h.num p _ (by omega)]
  omega
theorem zmt {D:List Rev}{n:Nat}(h:zmr D n):∀ r∈D,1≤r.num:=fun r hr=>by
 obtain⟨i,hi,e⟩:=List.getElem_of_mem (zgq.2 ⟨hr,rfl⟩:r∈zgp D r.path);have:=h.num r.path i hi;rw[e] at this;omega
theorem zmu {p:ByteArray}:∀ {L:List Rev},(L.map (·.path)).Nodup→zgp L p=[]∨∃ r∈L,r.path=p∧zgp L p=[r]
 | [],_=>.inl rfl
 | r :: L,h=>by
  rw[List.map_cons,List.nodup_cons] at h;have e:zgp (r :: L) p=(if r.path=p then [r] else [])++zgp L p:=by
   unfold zgp;by_cases hp:r.path=p
   ·rw[if_pos hp,List.filter_cons_of_pos (by simpa using hp)];rfl
   ·rw[if_neg hp,List.filter_cons_of_neg (by simpa using hp)];rfl
  rw[e];by_cases hp:r.path=p
  ·rw[if_pos hp];have:zgp L p=[]:=by
    cases hl:zgp L p with
    | nil=>rfl
    | cons v l =>
     have hv:v∈zgp L p:=by rw[hl];exact List.mem_cons_self ..
     obtain⟨h1,h2⟩:=zgq.1 hv;exact absurd (List.mem_map.2 ⟨v,h1,h2.trans hp.symm⟩) h.1
   rw[this];exact .inr ⟨r,List.mem_cons_self ..,hp,rfl⟩
  ·rw[if_neg hp];rcases zmu (p:=p) h.2 with h1 | ⟨v,h1,h2,h3⟩
   ·exact .inl h1
   ·exact .inr ⟨v,List.mem_cons_of_mem _ h1,h2,h3⟩
theorem dp_app {D:List Rev}{n:Nat}{es:List Edt}(h:zmr D n)(m:Int)(h6:∀ x∈es,x.path∈zff)(hn:(es.map (·.path)).Nodup)(hb:∀ x∈es,x.base=(zec (zgs D x.path)).num):zmr (D++es.map (zhy m)) (n+es.length):=by
 refine⟨by rw[List.length_append,List.length_map];have:=h.len;omega,fun r hr=>?_,fun p i hi=>?_⟩
 ·rcases List.mem_append.1 hr with hr | hr
  ·exact h.six r hr
  ·obtain⟨x,hx,rfl⟩:=List.mem_map.1 hr;exact h6 x hx
 ·have hl:zgp (es.map (zhy m)) p=[]∨∃ r∈es.map (zhy m),r.path=p∧zgp (es.map (zhy m)) p=[r]:=zmu (by rw[List.map_map];exact hn)
  have e:=zgr D (es.map (zhy m)) p;rcases hl with hl | ⟨r,hr,hp,hl⟩
  ·rw[hl,List.append_nil] at e;have hi2:i<(zgp D p).length:=by rw[← e];exact hi
   have:=h.num p i hi2;rw[← this];congr 1
   simp only[e]
  ·rw[hl] at e;have hi2:i<(zgp D p).length+1:=by have:=congrArg List.length e;rw[List.length_append,List.length_singleton] at this;omega
   by_cases hlt:i<(zgp D p).length
   ·rw[← h.num p i hlt];congr 1
    simp only[e]
    rw[List.getElem_append_left]
   ·have hie:i=(zgp D p).length:=by omega
    obtain⟨x,hx,rfl⟩:=List.mem_map.1 hr;have hnum:(zhy m x).num=(i:Int)+1:=by
     show x.base+1=_
     have hp':x.path=p:=hp;rw[hb x hx,hp',zms h,hie]
    rw[← hnum];congr 1
    simp only[e]
    rw[List.getElem_append_right (by omega)]
    simp [hie]
theorem dp_at {D:List Rev}{n:Nat}(h:zmr D n)(p:ByteArray)(m:Int):zec (z30 D p (fun v=>decide (v.chg≤m)))=rAt D p m∧(z30 D p (fun v=>decide (v.chg≤m))).isSome=decide (0<(rAt D p m).num):=by
 rw[zh3,zh2];refine zh4 m p (zgp D p) none ?_ (fun v hv=>⟨?_,(zgq.1 hv).2⟩) (fun b hb=>by cases hb)
 ·rw[List.pairwise_iff_getElem];intro i j hi hj hij;rw[h.num p i hi,h.num p j hj];omega
 ·have:=zmt h v (zgq.1 hv).1;omega
theorem zmw {D:List Rev}{n:Nat}(h:zmr D n):∀ r∈D,r.num≤n:=fun r hr=>by
 obtain⟨i,hi,e⟩:=List.getElem_of_mem (zgq.2 ⟨hr,rfl⟩:r∈zgp D r.path);have h1:=h.num r.path i hi;rw[e] at h1;have h2:=zgw D r.path;have:=h.len;omega
theorem zfi.of_congr {f g:ByteArray→Option ByteArray}(h:zfi g)(e:∀ p∈zff,f p=g p):zfi f:=
 ⟨fun p hp l hl=>h.path p hp l (by rw[← e p hp];exact hl),fun p hp q hq l h1 h2=>h.inj p hp q hq l (by rw[← e p hp];exact h1) (by rw[← e q hq];exact h2)⟩
structure zmx (w wr:World)(U g m B B2:Nat)(WL:List Hav)(k:Nat)(out:List Hav)(gv c:Nat)(A2:Option Addr)(c2:Nat)(y:Hav):Prop where
 kept:z6t [g] w wr
 tape:zgf wr U g m
 own:∃ xs,wr.ownsRow B 44 3 (.slice (some ⟨gv,0,none⟩) WL.length c) WL.length xs∧(∀ j,(k+1) * 3≤j→xs[j]? = (WL.flatMap Hav.cells)[j]?)∧xs[k * 3]? = some (.string y.path)∧xs[k * 3+1]? = some (.int .i64 y.num)∧xs[k * 3+2]? = some (.string y.loc)
 out:wr.ownsRow B2 44 3 (.slice A2 out.length c2) out.length (out.flatMap Hav.cells)
 le:w.heap.size≤B
 le2:gv<B2
 gU:g<w.heap.size
 UU:U≤w.heap.size
 b2:B2≤wr.heap.size
section
variable {w wr w' : World} {U g m m' B B2 k gv c c2 : Nat} {WL out : List Hav} {A2 : Option Addr} {y : Hav}
theorem zmx.gv_ge (h:zmx w wr U g m B B2 WL k out gv c A2 c2 y):B≤gv∧w.heap.size≤gv:=by
 obtain⟨xs,h1,-,h2,-⟩:=h.own;have:=(zac h1 h2).2.2;exact⟨this,Nat.le_trans h.le this⟩
theorem zmx.next (h:zmx w wr U g m B B2 WL k out gv c A2 c2 y)(hK:z6t [g] wr w')(hT:zgf w' U g m'):zmx w w' U g m' B B2 WL k out gv c A2 c2 y:=by
 have hg:=h.gv_ge;have hgU:=h.gU;have hle:=h.le;have hle2:=h.le2;obtain⟨xs,h1,h2⟩:=h.own;exact⟨h.kept.trans hK,hT,⟨xs,zlh h1 hK (fun x hx=>by have:=(h1.lt x hx).1;rw[List.mem_singleton];omega),h2⟩,zlh h.out hK (fun x hx=>by have:=(h.out.lt x hx).1;rw[List.mem_singleton];omega),h.le,h.le2,h.gU,h.UU,Nat.le_trans h.b2 hK.size⟩
theorem zmx.under (h:zmx w wr U g m B B2 WL k out gv c A2 c2 y)(hb:Below wr.heap.size wr w'):zmx w w' U g m B B2 WL k out gv c A2 c2 y:=h.next (z6t.below hb) (h.tape.below hb)
theorem zmx.cells (h:zmx w wr U g m B B2 WL k out gv c A2 c2 y):(wr.cell? ⟨gv,k * 3,none⟩=some (.string y.path)∧wr.cell? ⟨gv,k * 3+1,none⟩=some (.int .i64 y.num)∧wr.cell? ⟨gv,k * 3+2,none⟩=some (.string y.loc))∧wr.frozen? ⟨gv,k * 3+1,none⟩=false∧wr.frozen? ⟨gv,k * 3+2,none⟩=false:=by
 obtain⟨xs,h1,-,h2,h3,h4⟩:=h.own;exact⟨⟨(zac h1 h2).1,(zac h1 h3).1,(zac h1 h4).1⟩,(zac h1 h3).2.1,(zac h1 h4).2.1⟩
theorem zmx.set_ (h:zmx w wr U g m B B2 WL k out gv c A2 c2 y)(i:Nat)(u:Value)(y':Hav)(hi:i<3)
  (h0:[Value.string y'.path,.int .i64 y'.num,.string y'.loc]=[Value.string y.path,.int .i64 y.num,.string y.loc].set i u):zmx w (wr.setCell ⟨gv,k * 3+i,none⟩ u) U g m B B2 WL k out gv c A2 c2 y':=by
 obtain⟨h5,h6⟩:=h.gv_ge;have hUU:=h.UU;have hgU:=h.gU;have hb:Below w.heap.size wr (wr.setCell ⟨gv,k * 3+i,none⟩ u):=(Below.refl w.heap.size wr).setCell (p:=⟨gv,k * 3+i,none⟩) h6 u;have hg:=z6u wr gv (k * 3+i) u;obtain⟨xs,h1,h2,h3⟩:=h.own;have ht:zgf (wr.setCell ⟨gv,k * 3+i,none⟩ u) U g m:=h.tape.keep hg.size fun x hx=>hb.block x (by omega)
 refine⟨h.kept.onto hb,ht,⟨xs.set (k * 3+i) u,zab h1 u,fun j hj=>?_,?_⟩,z4q h.out hg (fun x hx e=>by injection e with e;have:=(h.out.lt x hx).1;have:=h.le2;omega),h.le,h.le2,h.gU,h.UU,Nat.le_trans h.b2 hg.size⟩
 ·rw[List.getElem?_set_ne (by omega)];exact h2 j hj
 ·have hl:∀ j,j<3→(xs.set (k * 3+i) u)[k * 3+j]? = ([Value.string y.path,.int .i64 y.num,.string y.loc].set i u)[j]?:=by
   intro j hj;have hx:xs[k * 3+j]? = [Value.string y.path,.int .i64 y.num,.string y.loc][j]?:=by
    match j,hj with
    | 0,_=>exact h3.1
    | 1,_=>exact h3.2.1
    | 2,_=>exact h3.2.2
   by_cases e:i=j
   ·subst e;rw[List.getElem?_set_self (by have:=(List.getElem?_eq_some_iff.1 h3.2.2).1;omega),List.getElem?_set_self hi]
   ·rw[List.getElem?_set_ne (by omega),List.getElem?_set_ne e,hx]
  rw[← h0] at hl;exact⟨hl 0 (by omega),hl 1 (by omega),hl 2 (by omega)⟩
structure HlSt (w wr:World)(U g m B B2:Nat)(WL:List Hav)(k:Nat)(out:List Hav)(lv:Value)(A2:Option Addr)(c2:Nat):Prop where
 kept:z6t [g] w wr
 tape:zgf wr U g m
 own:∃ xs,wr.ownsRow B 44 3 lv WL.length xs∧(∀ j,k * 3≤j→xs[j]? = (WL.flatMap Hav.cells)[j]?)
 out:wr.ownsRow B2 44 3 (.slice A2 out.length c2) out.length (out.flatMap Hav.cells)
 le:w.heap.size≤B
 le2:∀ x,lv.ownBlock=some x→x<B2
 gU:g<w.heap.size
 UU:U≤w.heap.size
 b2:B2≤wr.heap.size
theorem HlSt.into {lv:Value}(h:HlSt w wr U g m B B2 WL k out lv A2 c2)(hk:k<WL.length):∃ gv c,lv=.slice (some ⟨gv,0,none⟩) WL.length c∧zmx w wr U g m B B2 WL k out gv c A2 c2 WL[k]:=by
 obtain⟨xs,h1,h2⟩:=h.own;obtain⟨gv,c,e⟩:=z0s h1 (by omega)
 subst e;have hf:=fun j hj=>z44 Hav.cells 3 (fun _=>rfl) WL k j hk hj;exact⟨gv,c,rfl,h.kept,h.tape,⟨xs,h1,fun j hj=>h2 j (by omega),by have:=hf 0 (by omega);rw[Nat.add_zero] at this;rw[h2 _ (by omega),this];rfl,by rw[h2 _ (by omega),hf 1 (by omega)];rfl,by rw[h2 _ (by omega),hf 2 (by omega)];rfl⟩,h.out,h.le,h.le2 gv rfl,h.gU,h.UU,h.b2⟩
theorem zmx.back (h:zmx w wr U g m B B2 WL k out gv c A2 c2 y):HlSt w wr U g m B B2 WL (k+1) out (.slice (some ⟨gv,0,none⟩) WL.length c) A2 c2:=by
 obtain⟨xs,h1,h2,-⟩:=h.own;exact⟨h.kept,h.tape,⟨xs,h1,h2⟩,h.out,h.le,(fun x e=>by injection e with e;subst e;exact h.le2),h.gU,h.UU,h.b2⟩
theorem zmx.push {w6:World}{A':Option Addr}{c':Nat}(h:zmx w wr U g m B B2 WL k out gv c A2 c2 y)(ho:w6.ownsRow B2 44 3 (.slice A' (out.length+1) c') (out.length+1) (out.flatMap Hav.cells++[.string y.path,.int .i64 y.num,.string y.loc]))(hg:wr.grownBy w6 (Value.slice A2 out.length c2).ownBlock):
  HlSt w w6 U g m B B2 WL (k+1) (out++[y]) (.slice (some ⟨gv,0,none⟩) WL.length c) A' c':=by
 obtain⟨h5,h6⟩:=h.gv_ge;have hle2:=h.le2;have hK:z6t [g] w w6:=h.kept.grown_own hg (fun x e=>by have:=(h.out.lt x e).1;omega)
 obtain⟨xs,h1,h2,-⟩:=h.own;refine⟨hK,h.tape.keep hg.size fun x hx=>hg.block x (Nat.lt_of_lt_of_le hx (Nat.le_trans h.UU h.kept.size)) (fun e=>by have:=(h.out.lt x e.symm).1;have:=h.UU;omega),⟨xs,z4q h1 hg (fun x hx e=>by have:=(h.out.lt x e).1;have hx':gv=x:=(by injection hx);omega),h2⟩,?_,h.le,(fun x e=>by injection e with e;subst e;exact h.le2),h.gU,h.UU,Nat.le_trans h.b2 hg.size⟩
 rw[List.length_append,List.flatMap_append];exact ho
end
theorem rcT16 (T:Code)(hT:Tryz.f93.body.bind (zhv 16)=some T)(P:Ending→World→Prop)(W:World)(A:Option Addr)(c:Nat)(es:List zd8)(hE:zdi W (.slice A es.length c) es)(hl:es.length≤32)
  (hap:∀(i j:Nat) (hi:i<es.length) (hj:j<i),(zai es[i].l.1 (es[j]'(Nat.lt_trans hj hi)).l.1=none∧zai es[i].r.1 (es[j]'(Nat.lt_trans hj hi)).r.1=none)∧znr es[i].l.1 (es[j]'(Nat.lt_trans hj hi)).l.1∧znr es[i].r.1 (es[j]'(Nat.lt_trans hj hi)).r.1)
  (hR:∀ x∈es,∀ X,Below W.heap.size W X→Calls prog 138 #[x.val] X (zo0 X x.r.v x.r.1.rest))
  (hP:∀ w',Below W.heap.size W w'→P (.returned (.tuple #[.int .i64 0,.int .i64 0])) w')
  (u1 u2 u3 u4 u5 u6 u7 u8 u9 gn gt gu gx gy gz gA gC gD gE gF gG gH gI gJ gK gL gM gN gO gP gQ gR gT gV gW gX gY gZ i6 i7 i8 ia ib ic ie ig ii ij ik il im io ip iq ir iu iv iw ix iy iz iA iB iC iD iE iF iG iH iI iJ iK iL iM iN iO iP iQ iR iS iT iU iV iW iX iY iZ j0 j1 j2 j5:Value):
  T.wp prog (bodyPost prog Tryz.f93 P) ⟨#[.slice A es.length c,u1,u2,u3,u4,u5,u6,u7,u8,u9,gn,gt,gu,gx,gy,gz,gA,gC,gD,gE,gF,gG,gH,gI,gJ,gK,gL,gM,gN,gO,gP,gQ,gR,gT,gV,gW,gX,gY,gZ,i6,i7,i8,ia,ib,ic,ie,ig,ii,ij,ik,il,im,io,ip,iq,ir,iu,iv,iw,ix,iy,iz,iA,iB,iC,iD,iE,iF,iG,iH,iI,iJ,iK,iL,iM,iN,iO,iP,iQ,iR,iS,iT,iU,iV,iW,iX,iY,iZ,j0,j1,j2,j5],[]⟩ W:=by
 simp only[Tryz.f93,Option.bind_some,zhv,zhu] at hT
 simp at hT
 subst hT;have HE:=hd_ (fun X (hX:Below W.heap.size W X)=>hE.below hX);have HR:=hd_ hR;have HAP:=hd_ hap;have HP:=hd_ hP;have hcc:es.length≤c:=by obtain⟨A',c',e,h1,-⟩:=id hE.1;injection e with e1 e2 e3;omega
 clear hE hR hap hP;go_wp2_with fail;go_loopw [56] (fun i wr=>∃ k:Nat,i=.int .i64 k∧k≤es.length∧Hid (Below W.heap.size W wr)) (fun i _=>es.length - (intOf i).toNat)
 case atStart=>exact⟨0,rfl,Nat.zero_le _,hd_ (Below.refl _ _)⟩
 case round =>
  obtain⟨k,rfl,hk,HI⟩:=hrel;by_cases hlt:k<es.length
  ·have HEX:=hd_ (HE.out wr HI.out);obtain⟨ad,rfl,hab,s0,s1,s2,s3,s4⟩:=HEX.out.at_ hlt;have HXI:=hd_ (HEX.out.2 es[k] (List.getElem_mem hlt));have HXR:=hd_ (HR.out es[k] (List.getElem_mem hlt));have HAK:=hd_ (fun j (hj:j<k)=>HAP.out k j hlt hj);generalize es[k]=x at s0 s1 s2 s3 s4 HXI HXR HAK;obtain⟨H,hc,hhv⟩:=HXI.out.holes;obtain⟨⟨pl,Al,cl⟩,⟨pr,Ar,cr⟩,hv,hs⟩:=x;change hv=.slice H hs.length hc at hhv;subst hhv;change wr.cell? _=some (.slice Al pl.parts.length cl) at s0;change wr.cell? _=some (.bool pl.rest) at s1;change wr.cell? _=some (.slice Ar pr.parts.length cr) at s2;change wr.cell? _=some (.bool pr.rest) at s3;change wr.cell? _=some (.slice H hs.length hc) at s4;have hX:Below wr.heap.size wr (wr.alloc (.cells #[.slice Al pl.parts.length cl,.bool pl.rest,.slice Ar pr.parts.length cr,.bool pr.rest,.slice H hs.length hc] 100)):=(Below.refl _ _).alloc (Nat.le_refl _) _;have HX:=hd_ (z0r HI.out hX);have HN:Hid (Blk _ _ 100 [.slice Al pl.parts.length cl,.bool pl.rest,.slice Ar pr.parts.length cr,.bool pr.rest,.slice H hs.length hc]):=hd_ (z0l wr _ _);have HXP:=hd_ (HXI.out.below hX);have hpre:=fun X=>zdl (P:=prog) (t:=27) (n:=es.length) (c:=c) (k:=k) (A:=some ad) underlying27 zdm (by omega) X
   have HPR:=hd_ hpre;have HLT:=hd_ hlt;clear hab hX hpre;go_upto_region 19 with fail;generalize wr.alloc (.cells #[.slice Al pl.parts.length cl,.bool pl.rest,.slice Ar pr.parts.length cr,.bool pr.rest,.slice H hs.length hc] 100)=W4 at HX HN HXP ⊢;generalize wr.heap.size=g11 at HN ⊢;clear s0 s1 s2 s3 s4;obtain⟨x0,x1,x2,x3,x4⟩:=(⟨HN.out.cell 0,HN.out.cell 1,HN.out.cell 2,HN.out.cell 3,HN.out.cell 4⟩:W4.cell? ⟨g11,0,none⟩=some (.slice Al pl.parts.length cl)∧W4.cell? ⟨g11,1,none⟩=some (.bool pl.rest)∧W4.cell? ⟨g11,2,none⟩=some (.slice Ar pr.parts.length cr)∧W4.cell? ⟨g11,3,none⟩=some (.bool pr.rest)∧W4.cell? ⟨g11,4,none⟩=some (.slice H hs.length hc));have HRC:Hid (Calls prog 138 #[.agg #[.slice Al pl.parts.length cl,.bool pl.rest,.slice Ar pr.parts.length cr,.bool pr.rest,.slice H hs.length hc]] W4 (zo0 W4 (.slice Ar pr.parts.length cr) pr.rest)):=hd_ (HXR.out W4 HX.out);go_wp2_with fail;refine HRC.out.mono ?_;rintro e w5 ⟨hb,H9,n9,c9,rfl⟩;dsimp only;have hX5:Below w5.heap.size w5 (w5.alloc (.cells #[.slice Ar pr.parts.length cr,.bool pr.rest,.slice H9 n9 c9] 115)):=(Below.refl _ _).alloc (Nat.le_refl _) _;have hb6:=z0r hb hX5;have HB6:=hd_ (z0r HX.out hb6);have HE6:=hd_ (HN.out.below hb6 HN.out.lt);have HX6:=hd_ (HXP.out.below hb6);have HG6:Hid (Blk _ _ 115 [.slice Ar pr.parts.length cr,.bool pr.rest,.slice H9 n9 c9]):=hd_ (z0l w5 _ _);clear hb hX5 hb6 x0 x1 x2 x3 x4 HRC HN HXP;go_upto_region 20 with fail;generalize w5.alloc (.cells #[.slice Ar pr.parts.length cr,.bool pr.rest,.slice H9 n9 c9] 115)=W6 at HB6 HE6 HX6 HG6 ⊢;generalize w5.heap.size=g12 at HG6 ⊢;have hpre:=HPR.out;go_wp2_with fail;clear hpre;go_loopw [70] (fun i wr=>∃ j:Nat,i=.int .i64 j∧j≤k∧Hid (Below W6.heap.size W6 wr)) (fun i _=>k - (intOf i).toNat)
   case atStart=>exact⟨0,rfl,Nat.zero_le _,hd_ (Below.refl _ _)⟩
   case round =>
    obtain⟨j,rfl,hj,HJ⟩:=hrel;by_cases hlj:j<k
    ·have hje:j<es.length:=by have:=HLT.out;omega
     have HEY:=hd_ (HE.out wr (z0r HB6.out HJ.out));obtain⟨ad2,had,hab,s0,s1,s2,s3,s4⟩:=HEY.out.at_ hje;injection had with had
     subst had;have HYI:=hd_ (HEY.out.2 es[j] (List.getElem_mem hje));have HYR:=hd_ (HR.out es[j] (List.getElem_mem hje));have HAJ:=hd_ (HAK.out j hlj);generalize es[j]=y at s0 s1 s2 s3 s4 HYI HYR HAJ;obtain⟨Hy,hcy,hhv⟩:=HYI.out.holes;obtain⟨⟨ql,Bl,dl⟩,⟨qr,Br,dr⟩,hv,hsy⟩:=y;change hv=.slice Hy hsy.length hcy at hhv;subst hhv;change wr.cell? _=some (.slice Bl ql.parts.length dl) at s0;change wr.cell? _=some (.bool ql.rest) at s1;change wr.cell? _=some (.slice Br qr.parts.length dr) at s2;change wr.cell? _=some (.bool qr.rest) at s3;change wr.cell? _=some (.slice Hy hsy.length hcy) at s4;have hX:Below wr.heap.size wr (wr.alloc (.cells #[.slice Bl ql.parts.length dl,.bool ql.rest,.slice Br qr.parts.length dr,.bool qr.rest,.slice Hy hsy.length hcy] 100)):=(Below.refl _ _).alloc (Nat.le_refl _) _;have HJ7:=hd_ (z0r HJ.out hX);have HN7:Hid (Blk _ _ 100 [.slice Bl ql.parts.length dl,.bool ql.rest,.slice Br qr.parts.length dr,.bool qr.rest,.slice Hy hsy.length hcy]):=hd_ (z0l wr _ _);have HYP:=hd_ (HYI.out.below hX);have HLJ:=hd_ hlj;clear hab hX;go_upto_region 23 with fail;generalize wr.alloc (.cells #[.slice Bl ql.parts.length dl,.bool ql.rest,.slice Br qr.parts.length dr,.bool qr.rest,.slice Hy hsy.length hcy] 100)=W7 at HJ7 HN7 HYP ⊢;generalize wr.heap.size=g15 at HN7 ⊢;clear s0 s1 s2 s3 s4;obtain⟨x0,x1,x2,x3,x4⟩:=(⟨HN7.out.cell 0,HN7.out.cell 1,HN7.out.cell 2,HN7.out.cell 3,HN7.out.cell 4⟩:W7.cell? ⟨g15,0,none⟩=some (.slice Bl ql.parts.length dl)∧W7.cell? ⟨g15,1,none⟩=some (.bool ql.rest)∧W7.cell? ⟨g15,2,none⟩=some (.slice Br qr.parts.length dr)∧W7.cell? ⟨g15,3,none⟩=some (.bool qr.rest)∧W7.cell? ⟨g15,4,none⟩=some (.slice Hy hsy.length hcy));have HRC:Hid (Calls prog 138 #[.agg #[.slice Bl ql.parts.length dl,.bool ql.rest,.slice Br qr.parts.length dr,.bool qr.rest,.slice Hy hsy.length hcy]] W7 (zo0 W7 (.slice Br qr.parts.length dr) qr.rest)):=hd_ (HYR.out W7 (z0r HB6.out HJ7.out));go_wp2_with fail;refine HRC.out.mono ?_;rintro e w8 ⟨hb,H8,n8,c8,rfl⟩;dsimp only;have hX8:Below w8.heap.size w8 (w8.alloc (.cells #[.slice Br qr.parts.length dr,.bool qr.rest,.slice H8 n8 c8] 115)):=(Below.refl _ _).alloc (Nat.le_refl _) _
     have hb9:=z0r hb hX8;have HJ9:=hd_ (z0r HJ7.out hb9);have h15:=HN7.out.below hb9 HN7.out.lt;have hy9:=HYP.out.below hb9;have h16:Blk _ _ 115 [.slice Br qr.parts.length dr,.bool qr.rest,.slice H8 n8 c8]:=z0l w8 _ _;have HC9:=hd_ (And.intro h15 (And.intro hy9 h16));clear hb hX8 hb9 x0 x1 x2 x3 x4 HRC HN7 HYP h15 hy9 h16;go_upto_region 24 with fail;generalize w8.alloc (.cells #[.slice Br qr.parts.length dr,.bool qr.rest,.slice H8 n8 c8] 115)=W9 at HJ9 HC9 ⊢;generalize w8.heap.size=g16 at HC9 ⊢;have hx9:=HX6.out.below HJ9.out;refine rcR24 _ (by kernel_rfl) _ W9 g11 g12 g15 g16 pl ql pr qr Al Bl Ar Br H Hy H9 H8 cl dl cr dr hs.length hsy.length n9 n8 hc hcy c9 c8 (HE6.out.below HJ9.out HE6.out.lt) HC9.out.1 (HG6.out.below HJ9.out HG6.out.lt) HC9.out.2.2 hx9.l HC9.out.2.1.l hx9.r HC9.out.2.1.r HAJ.out.1.1 HAJ.out.1.2 HAJ.out.2.1 HAJ.out.2.2 ?_
     intro fN fO fP fQ fR fS fT fU fV w' hb';have HBN:=hd_ (z0r HJ9.out hb');clear hb' hx9;go_wp2_with fail;go_roundw
     case rel=>exact⟨j+1,by go_num,by have:=HLJ.out;omega,HBN⟩
     case measure=>have:=HLJ.out;simp [intOf];omega
    ·have hke:j=k:=by omega
     subst hke;have HBE:=hd_ (z0r HB6.out HJ.out);have hge:¬((j:Int)<(j:Int)):=by omega
     go_wp2_with fail;go_roundw
     case rel=>exact⟨j+1,by go_num,by have:=HLT.out;omega,HBE⟩
     case measure=>have:=HLT.out;simp [intOf];omega
  ·have hke:k=es.length:=by omega
   subst hke;have HB:=hd_ HI.out;have hge:¬((es.length:Int)<(es.length:Int)):=by omega
   go_wp2_with fail;exact HP.out _ HB.out
theorem zoe {l r:Pat}(h:za8 l r=0):z7e l=0∧z7e r=0∧za2 l=za2 r∧l.rest=r.rest:=by
 unfold za8 at h;by_cases h1:z7e l=0
 ·by_cases h2:z7e r=0
  ·by_cases h3:za2 l=za2 r∧l.rest=r.rest
   ·exact⟨h1,h2,h3⟩
   ·rw[if_neg (by simp [h1]),if_neg (by simp [h2]),if_pos (by
     by_cases h4:za2 l=za2 r
     ·exact .inr fun h5=>h3 ⟨h4,h5⟩
     ·exact .inl h4)] at h
    cases h
  ·rw[if_neg (by simp [h1]),if_pos h2] at h;cases h
 ·rw[if_pos h1] at h;cases h
def symB (p q:Pat):Bool:=(List.range (zah p q).parts.length).all fun k=>z9s (((zag p q).parts[k]?).getD z2l) (((zah p q).parts[k]?).getD z2l) || !z9s (((zah p q).parts[k]?).getD z2l) (((zag p q).parts[k]?).getD z2l)
theorem zof {p q:Pat}(h:symB p q=true):znr p q:=by
 unfold symB at h;intro k hx hy hw;have:=List.all_eq_true.1 h k (List.mem_range.2 hy);rw[List.getElem?_eq_getElem hx,List.getElem?_eq_getElem hy] at this;simp only[Option.getD_some] at this
 rw[hw] at this;simpa using this
def oneB (x:zr9):Bool:=match x.hs with
 | []=>true
 | [h]=>match zai x.l h with
  | none=>false
  | some m=>symB x.l h && symB x.r (zcv x.l x.r m)
 | _=>false
def refB (es:List zr9):Bool:=(es.all oneB) && (List.range es.length).all fun i=>(List.range i).all fun j=>match es[i]?,es[j]? with
 | some x,some y=>symB x.l y.l && symB x.r y.r
 | _,_=>false
theorem zog:∀ k<8,refB (zg3 k)=true:=by decide +kernel
structure zoh (es:List zd8):Prop where
 map:zdj es
 one:∀ x∈es,x.hs=[]∨∃ q m,x.hs=[q]∧zcw x.l.1 x.r.1 q.1 m∧znr x.l.1 q.1∧znr x.r.1 (zcv x.l.1 x.r.1 m)
 sym:∀(i j:Nat) (hi:i<es.length) (hj:j<i),znr es[i].l.1 (es[j]'(Nat.lt_trans hj hi)).l.1∧znr es[i].r.1 (es[j]'(Nat.lt_trans hj hi)).r.1
theorem zoi {es:List zd8}{k:Nat}(hk:k<8)(h:es.map zd8.pl=zg3 k):zoh es:=by
 have hM:=(zgb hk h).1.map;have hB:=zog k hk;rw[← h] at hB;unfold refB at hB;simp only[Bool.and_eq_true,List.all_eq_true,List.mem_range,List.length_map,List.mem_map,forall_exists_index,and_imp,forall_apply_eq_imp_iff₂] at hB
 obtain⟨h1,h2⟩:=hB;refine⟨hM,fun x hx=>?_,fun i j hi hj=>?_⟩
 ·have ho:=h1 x hx;have hn:=(hM.ok x hx).nar;obtain⟨xl,xr,hv,hs⟩:=x;match hs,ho,hn with
  | [],_,_=>exact .inl rfl
  | [q],ho,hn =>
   obtain⟨m,hm⟩:=hn q (List.mem_cons_self ..);refine .inr ⟨q,m,rfl,hm,?_⟩;unfold oneB zd8.pl at ho;simp only[List.map_cons,List.map_nil] at ho
   have e:zai xl.1 q.1=some m:=hm.meet;rw[e] at ho;simp only[Bool.and_eq_true] at ho
   exact⟨zof ho.1,zof ho.2⟩
  | _ :: _ :: _,ho,_=>exact absurd ho (by simp [oneB,zd8.pl])
 ·have:=h2 i hi j hj;rw[List.getElem?_map,List.getElem?_map,List.getElem?_eq_getElem hi,List.getElem?_eq_getElem (Nat.lt_trans hj hi)] at this;simp only[Option.map_some,Bool.and_eq_true] at this
  exact⟨zof this.1,zof this.2⟩
theorem zoj (es:List zd8)(v:Value)(w:World)(hE:zdi w v es)(hM:zoh es):
  Calls prog 93 #[v] w fun e w'=>e=.returned (.tuple #[.int .i64 0,.int .i64 0])∧Below w.heap.size w w':=by
 obtain⟨A,c,rfl,-⟩:=id hE.1;have hR:∀ x∈es,∀ X,Below w.heap.size w X→Calls prog 138 #[x.val] X (zo0 X x.r.v x.r.1.rest):=by
  intro x hx X hX;have hI:=(hE.2 x hx).below hX;have hO:=hM.one x hx;obtain⟨H,hc,hhv⟩:=hI.holes;obtain⟨⟨pl,Al,cl⟩,⟨pr,Ar,cr⟩,hv,hs⟩:=x;change hv=.slice H hs.length hc at hhv;subst hhv;rcases hO with ho | ⟨q,m,ho,hn,hs1,hs2⟩
  ·change hs=[] at ho;subst ho;exact zo1 Al Ar H pl.parts.length pr.parts.length cl cr hc pl.rest pr.rest X
  ·change hs=[q] at ho;subst ho;obtain⟨ad,rfl,hab,s0,s1⟩:=zd2.at_ (k:=0) hI.h (by simp)
   have hq:=hI.h.2 q (List.mem_cons_self ..);obtain⟨q,B,b⟩:=q;have hcc:1≤hc:=by
    obtain⟨A',c',e,h1,-⟩:=hI.h.1;injection e with e1 e2 e3
    subst e3;exact h1
   have e0:ad.add (0 * 2)=ad:=by unfold Addr.add;simp
   rw[e0] at s0 s1;exact zo2 pl pr q m Al B Ar cl b cr ad hc X hI.l hI.r hq hn hs1 hs2 rfl hcc s0 s1
 refine zo6 w A c es _ hE hM.map.len (fun x hx X hX=>?_) (fun x hx X hX=>?_) hR (fun T hT W hW=>rcT16 T hT _ W A c es (hE.below hW) hM.map.len (fun i j hi hj=>⟨hM.map.apart i j hi hj,hM.sym i j hi hj⟩) (fun x hx X hX=>hR x hx X (z0r hW hX)) (fun w' hb=>⟨rfl,z0r hW hb⟩))
 ·have hI:=(hE.2 x hx).below hX;obtain⟨h1,h2,h3,h4⟩:=zoe (hM.map.ok x hx).rule;obtain⟨⟨pl,Al,cl⟩,⟨pr,Ar,cr⟩,hv,hs⟩:=x;exact znj false pl pr Al Ar cl cr X hI.l hI.r h1 h2 h3 h4
 ·have hI:=(hE.2 x hx).below hX;have hg:=(hM.map.ok x hx).reg;obtain⟨H,hc,hhv⟩:=hI.holes;obtain⟨⟨pl,Al,cl⟩,⟨pr,Ar,cr⟩,hv,hs⟩:=x;change hv=.slice H hs.length hc at hhv;subst hhv;have:=znt pl hs Al H cl hc X hI.l hI.h (Nat.le_trans hI.n (by decide))
  rw[show zd3 pl hs=0 from hg] at this;exact this
theorem zok (es:List zd8)(v:Value)(p:ByteArray)(w:World)(he:Env w)(hE:zdi w v es)(hM:zoh es)(hF:zdu es p)(hz:p.size≤1000000):
  Calls prog 95 #[v,.string p] w (zc3 w (zdt es p)):=by
 refine zo5 es v p w he hE hM.map.len hz (zoj es v w hE hM) fun x hx X hX=>?_;have hI:=(hE.2 x hx).below hX;obtain⟨h1,h2,h3,h4⟩:=zoe (hM.map.ok x hx).rule;have hf:=hF x hx;obtain⟨⟨pl,Al,cl⟩,⟨pr,Ar,cr⟩,hv,hs⟩:=x;exact znk false pl pr p Al Ar cl cr X (he.below hX) hz hI.l hI.r h1 h2 h3 h4 hf (fun Y caps cv hY hc hfo=>zod pr caps Ar cr cv Y ((he.below hX).below hY) (hI.r.below hY) hc hfo)
theorem zon {D:List Rev}{f:ByteArray→Option ByteArray}{m:Int}{p:ByteArray}{n:Nat}(h:zmr D n):
  (decide (0<(rAt D p m).num)=false→zfj D f m p=none)∧(decide (0<(rAt D p m).num)=true→(f p=none→zfj D f m p=none)∧(z2v (rAt D p m).act=false→zfj D f m p=none)∧∀ s,f p=some s→z2v (rAt D p m).act=true→zfj D f m p=some ⟨p,(rAt D p m).num,s⟩):=by
 obtain⟨h1,h2⟩:=dp_at h p m;unfold zfj;cases hg:z30 D p (fun v=>decide (v.chg≤m)) with
 | none =>
  rw[hg] at h2;refine⟨fun _=>rfl,fun h3=>?_⟩;rw[h3] at h2;cases h2
 | some r =>
  rw[hg] at h1 h2;have h1:r=rAt D p m:=h1;subst h1;refine⟨fun h3=>(by rw[h3] at h2;cases h2),fun _=>⟨fun e=>(by simp only;rw[e];split <;> rfl),fun e=>(by simp only;rw[if_neg (by rw[e];decide)]),fun s e1 e2=>(by simp only;rw[if_pos e2,e1];rfl)⟩⟩
def RwPost (w:World)(l:List Hav)(e:Ending)(w':World):Prop:=∃ v,e=.returned (.tuple #[v,.int .i64 0])∧w'.ownsRow w.heap.size 44 3 v l.length (l.flatMap Hav.cells)∧Below w.heap.size w w'
theorem zoo (D:List Rev)(n:Nat)(es:List zd8)(m:Int)(dv dr mv:Value)(w:World)(he:Env w)(hR:z45 w dv D)(hE:zdi w mv es)(hD:zmr D n)(hl:D.length≤1000)(hM:zoh es)(hS:zfs es)(hf:zfi (zdt es)):
  Calls prog 60 #[.agg #[dv,dr],mv,.int .i64 m] w (RwPost w (zfk D (zdt es) m)):=by
 obtain⟨Ar,cr,rfl,-⟩:=id hR;have hBox:=z0l w [.slice Ar D.length cr,dr] 26;have hA:Below w.heap.size w (w.alloc (.cells #[.slice Ar D.length cr,dr] 26)):=(Below.refl _ _).alloc (Nat.le_refl _) _;have HCK:=hd_ (fun X (hX:Below w.heap.size w X)=>zoj es mv X (hE.below hX) hM);have HAT:=hd_ (fun X (hX:Below w.heap.size w X) p=>zh7 D p m (.slice Ar D.length cr) dr X (hR.below hX) (by omega))
 have HFW:=hd_ (fun X (hX:Below w.heap.size w X) p (hp:p∈zff)=>zok es mv p X (he.below hX) (hE.below hX) hM (hS.fits p hp) (zft p hp).2);have HEV:=hd_ (fun X (hX:Below w.heap.size w X)=>he.below hX);have HRV:=hd_ (fun X (hX:Below w.heap.size w X)=>hR.below hX);have HSM:=hd_ hS.small;have HDP:=hd_ hD;have HEND:=hd_ (fun out (h:zly D (zdt es) m D.length out)=>zm1 h (zmt hD) hf);have HA:=hd_ hA;have HBX:=hd_ hBox;generalize zfk D (zdt es) m=WL at HEND ⊢;clear he hR hE hS hM hD hf hA hBox;go_enter func60,ntmps60;go_upto_region 1 with fail;generalize w.alloc (.cells #[.slice Ar D.length cr,dr] 26)=W1 at HA HBX ⊢;have HC1:=hd_ (HCK.out W1 HA.out);go_wp2_with fail;refine HC1.out.mono ?_;rintro e w2 ⟨rfl,hb⟩;dsimp only;have HB2:=hd_ (z0r HA.out hb);have HBX2:=hd_ (HBX.out.below hb HBX.out.lt);clear hb HCK HC1;have d0:w2.cell? ⟨w.heap.size,0,none⟩=some (.slice Ar D.length cr):=HBX2.out.cell 0;go_wp2_with fail;go_loopw [10,11] (fun lv i wr=>∃(k:Nat) (out:List Hav) (A:Option Addr) (c:Nat),lv=.slice A out.length c∧i=.int .i64 k∧k≤D.length∧Hid (zly D (zdt es) m k out∧Below w2.heap.size w2 wr∧wr.ownsRow w2.heap.size 44 3 (.slice A out.length c) out.length (out.flatMap Hav.cells))) (fun _ i _=>D.length - (intOf i).toNat)
 case atStart=>exact⟨0,[],none,0,rfl,rfl,Nat.zero_le _,hd_ ⟨refW_0 _ _ _,Below.refl _ _,World.ownsRow_nil _ _ _ _⟩⟩
 case round =>
  obtain⟨k,out,A,c,rfl,rfl,hk,HI⟩:=hrel;clear d0;have HBD:=hd_ (HBX2.out.below HI.out.2.1 HBX2.out.lt);have d0:wr.cell? ⟨w.heap.size,0,none⟩=some (.slice Ar D.length cr):=HBD.out.cell 0;have d1:wr.cell? ⟨w.heap.size,1,none⟩=some dr:=HBD.out.cell 1;have HBW:=hd_ (z0r HB2.out HI.out.2.1);by_cases hlt:k<D.length
  ·obtain⟨ad,rfl,hab,hc⟩:=(HRV.out wr HBW.out).at_ hlt;have HNO:=hd_ (fun h=>refW_no HI.out.1 hlt h);have HPT:=hd_ (fun x h=>zm0 (x:=x) HI.out.1 hlt HDP.out.six h);have H6:=hd_ (HDP.out.six _ (List.getElem_mem hlt));generalize D[k]=r at hc HNO HPT H6;obtain⟨c0,-⟩:=hc;have HT1:=hd_ (HAT.out wr HBW.out r.path);have HWC:=hd_ (zon (f:=zdt es) (m:=m) (p:=r.path) HDP.out);have HFP:=hd_ (fun X (hX:Below w.heap.size w X)=>HFW.out X hX r.path H6.out);have HSP:=hd_ (HSM.out r.path H6.out);have HLT:=hd_ hlt;generalize rAt D r.path m=v at HT1 HWC;generalize hbo:decide (0<v.num)=bo at HT1 HWC;generalize zdt es r.path=o at HFP HSP HWC;clear hab hbo hlt;go_wp2_with fail;refine HT1.out.mono ?_;rintro e w3 ⟨rfl,hb⟩;dsimp only;have HV:=hd_ (z0l w3 [.string v.path,.int .i64 v.num,.int .i64 v.chg,.int .i64 v.act,.int .i64 v.ty.base,.bool v.ty.k,.bool v.ty.l,.bool v.ty.x,.int .u64 v.sum,.int .i64 v.size,.string v.frm,.int .i64 v.fnum] 66);have hb4:=z0r hb ((Below.refl w3.heap.size w3).alloc (Nat.le_refl _) (.cells #[.string v.path,.int .i64 v.num,.int .i64 v.chg,.int .i64 v.act,.int .i64 v.ty.base,.bool v.ty.k,.bool v.ty.l,.bool v.ty.x,.int .u64 v.sum,.int .i64 v.size,.string v.frm,.int .i64 v.fnum] 66));have HB4:=hd_ (z0r HBW.out hb4);have HL4:=hd_ (z0r HI.out.2.1 hb4);have HO4:=hd_ (z0n HI.out.2.2 hb4);have HRF:=hd_ HI.out.1;clear hb hb4 c0 d0 d1 HT1 HI;go_upto_region 10 with fail;generalize w3.alloc (.cells #[.string v.path,.int .i64 v.num,.int .i64 v.chg,.int .i64 v.act,.int .i64 v.ty.base,.bool v.ty.k,.bool v.ty.l,.bool v.ty.x,.int .u64 v.sum,.int .i64 v.size,.string v.frm,.int .i64 v.fnum] 66)=W4 at HV HB4 HL4 HO4 ⊢;generalize w3.heap.size=g4 at HV ⊢;have HFC:=hd_ (HFP.out W4 HB4.out);go_wp2_with fail;refine HFC.out.mono ?_;rintro e w5 ⟨rfl,hb⟩;dsimp only;have HV5:=hd_ (HV.out.below hb HV.out.lt);have HB5:=hd_ (z0r HB4.out hb);have HL5:=hd_ (z0r HL4.out hb);have HO5:=hd_ (z0n HO4.out hb);clear hb HFC HV;cases bo with
   | false =>
    have HN:=hd_ (HNO.out (HWC.out.1 rfl));go_wp2_with fail;go_roundw
    case rel=>exact⟨k+1,out,_,_,rfl,by go_num,HLT.out,hd_ ⟨HN.out,HL5.out,HO5.out⟩⟩
    case measure=>have:=HLT.out;simp [intOf];omega
   | true =>
    have HW2:=hd_ (HWC.out.2 rfl);clear HWC;cases o with
    | none =>
     have HN:=hd_ (HNO.out (HW2.out.1 rfl));go_wp2_with fail;go_roundw
     case rel=>exact⟨k+1,out,_,_,rfl,by go_num,HLT.out,hd_ ⟨HN.out,HL5.out,HO5.out⟩⟩
     case measure=>have:=HLT.out;simp [intOf];omega
    | some s =>
     have HGO:=hd_ (zhw v w5);obtain⟨y0,y1,y2,y3,y4,y5,y6,y7,y8,y9,y10,y11⟩:=z7z HV5.out;have hs200:=HSP.out s rfl;cases hlv:z2v v.act with
     | false =>
      have HN:=hd_ (HNO.out (HW2.out.2.1 hlv));rw[hlv] at HGO;clear hlv hs200;go_wp2_with fail;refine HGO.out.mono ?_;rintro e w6 ⟨rfl,hb⟩;dsimp only;have HL6:=hd_ (z0r HL5.out hb);have HO6:=hd_ (z0n HO5.out hb);clear hb y0 y1 y2 y3 y4 y5 y6 y7 y8 y9 y10 y11;go_wp2_with fail;go_roundw
      case rel=>exact⟨k+1,out,_,_,rfl,by go_num,HLT.out,hd_ ⟨HN.out,HL6.out,HO6.out⟩⟩
      case measure=>have:=HLT.out;simp [intOf];omega
     | true =>
      have HN:=hd_ (HPT.out _ (HW2.out.2.2 s rfl hlv));rw[hlv] at HGO;clear hlv;go_wp2_with fail;refine HGO.out.mono ?_;rintro e w6 ⟨rfl,hb⟩;dsimp only;have HV6:=hd_ (HV5.out.below hb HV5.out.lt);have HB6:=hd_ (z0r HB5.out hb);have HL6:=hd_ (z0r HL5.out hb);have HO6:=hd_ (z0n HO5.out hb);have HPU:Hid (Calls prog 97 #[.slice A out.length c,.agg #[.string r.path,.int .i64 v.num,.string s]] w6 (zol w6 (zlr out ⟨r.path,v.num,s⟩))):=hd_ (zom out _ ⟨r.path,v.num,s⟩ w6 (HEV.out w6 HB6.out) (Row.of_own HO6.out) (fun x hx=>zft _ (HRF.out.2.1 x hx)) (zft _ H6.out).1 (zft _ H6.out).2 (by have:=zm2 HRF.out;omega))
      have y1:=HV6.out.cell 1;have z200:¬(200<(s.size:Int)):=by omega
      clear hb y0 y2 y3 y4 y5 y6 y7 y8 y9 y10 y11;go_wp2_with fail;refine HPU.out.mono ?_;rintro e w7 ⟨v7,rfl,hown,hb⟩;dsimp only;obtain⟨A7,c7,rfl⟩:=z0o hown;have HL7:=hd_ (z0r HL6.out hb);have HO7:=hd_ (z4p hown HL6.out.size);clear hb hown y1 z200;go_wp2_with fail;go_roundw
      case rel=>exact⟨k+1,zlr out ⟨r.path,v.num,s⟩,A7,c7,rfl,by go_num,HLT.out,hd_ ⟨HN.out,HL7.out,HO7.out⟩⟩
      case measure=>have:=HLT.out;simp [intOf];omega
  ·have hke:k=D.length:=by omega
   subst hke;have hge:¬((D.length:Int)<(D.length:Int)):=by omega
   have HB:=hd_ HBW.out;have HO:=hd_ (z4p HI.out.2.2 HB2.out.size);have e:=HEND.out out HI.out.1;subst e;go_wp2_with fail;go_ret2;exact⟨_,rfl,HO.out,HB.out⟩
end Go.Proofs.YtegeboijhifmcaaGreatDoor
