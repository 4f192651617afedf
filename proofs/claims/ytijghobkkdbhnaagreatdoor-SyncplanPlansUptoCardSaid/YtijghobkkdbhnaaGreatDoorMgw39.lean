/- A part. -/
import Derived.Test.YtijghobkkdbhnaaGreatDoorMgw38
import Derived.Test.YtijghobkkdbhnaaGreatDoorMgw33
import Derived.Test.YtijghobkkdbhnaaGreatDoorMgw34
set_option linter.unusedVariables false
set_option linter.unusedSimpArgs false
set_option maxHeartbeats 8000000
set_option maxRecDepth 100000
namespace Go.Proofs.YtijghobkkdbhnaaGreatDoor
open Go.Proofs.Tryz
open Go.RowKit
theorem zmi {D:List Rev}{n:Nat}(h:zmd D n):∀ r∈D,r.num≤n:=fun r hr=>by
 obtain⟨i,hi,e⟩:=List.getElem_of_mem (zgx.2 ⟨hr,rfl⟩:r∈zgw D r.path);have h1:=h.num r.path i hi;rw[e] at h1;have h2:=zh3 D r.path;have:=h.len;omega
theorem zfp.of_congr {f g:ByteArray→Option ByteArray}(h:zfp g)(e:∀ p∈zfm,f p=g p):zfp f:=
 ⟨fun p hp l hl=>h.path p hp l (by rw[← e p hp];exact hl),fun p hp q hq l h1 h2=>h.inj p hp q hq l (by rw[← e p hp];exact h1) (by rw[← e q hq];exact h2)⟩
structure zmj (w wr:World)(U g m B B2:Nat)(WL:List Hav)(k:Nat)(out:List Hav)(gv c:Nat)(A2:Option Addr)(c2:Nat)(y:Hav):Prop where
 kept:z6y [g] w wr
 tape:zgm wr U g m
 own:∃ xs,wr.ownsRow B 96 3 (.slice (some ⟨gv,0,none⟩) WL.length c) WL.length xs∧(∀ j,(k+1) * 3≤j→xs[j]? = (WL.flatMap Hav.cells)[j]?)∧xs[k * 3]? = some (.string y.path)∧xs[k * 3+1]? = some (.int .i64 y.num)∧xs[k * 3+2]? = some (.string y.loc)
 out:wr.ownsRow B2 96 3 (.slice A2 out.length c2) out.length (out.flatMap Hav.cells)
 le:w.heap.size≤B
 le2:gv<B2
 gU:g<w.heap.size
 UU:U≤w.heap.size
 b2:B2≤wr.heap.size
section
variable {w wr w' : World} {U g m m' B B2 k gv c c2 : Nat} {WL out : List Hav} {A2 : Option Addr} {y : Hav}
theorem zmj.gv_ge (h:zmj w wr U g m B B2 WL k out gv c A2 c2 y):B≤gv∧w.heap.size≤gv:=by
 obtain⟨xs,h1,-,h2,-⟩:=h.own;have:=(zah h1 h2).2.2;exact⟨this,Nat.le_trans h.le this⟩
theorem zmj.next (h:zmj w wr U g m B B2 WL k out gv c A2 c2 y)(hK:z6y [g] wr w')(hT:zgm w' U g m'):zmj w w' U g m' B B2 WL k out gv c A2 c2 y:=by
 have hg:=h.gv_ge;have hgU:=h.gU;have hle:=h.le;have hle2:=h.le2;obtain⟨xs,h1,h2⟩:=h.own;exact⟨h.kept.trans hK,hT,⟨xs,zl2 h1 hK (fun x hx=>by have:=(h1.lt x hx).1;rw[List.mem_singleton];omega),h2⟩,zl2 h.out hK (fun x hx=>by have:=(h.out.lt x hx).1;rw[List.mem_singleton];omega),h.le,h.le2,h.gU,h.UU,Nat.le_trans h.b2 hK.size⟩
theorem zmj.under (h:zmj w wr U g m B B2 WL k out gv c A2 c2 y)(hb:Below wr.heap.size wr w'):zmj w w' U g m B B2 WL k out gv c A2 c2 y:=h.next (z6y.below hb) (h.tape.below hb)
theorem zmj.cells (h:zmj w wr U g m B B2 WL k out gv c A2 c2 y):(wr.cell? ⟨gv,k * 3,none⟩=some (.string y.path)∧wr.cell? ⟨gv,k * 3+1,none⟩=some (.int .i64 y.num)∧wr.cell? ⟨gv,k * 3+2,none⟩=some (.string y.loc))∧wr.frozen? ⟨gv,k * 3+1,none⟩=false∧wr.frozen? ⟨gv,k * 3+2,none⟩=false:=by
 obtain⟨xs,h1,-,h2,h3,h4⟩:=h.own;exact⟨⟨(zah h1 h2).1,(zah h1 h3).1,(zah h1 h4).1⟩,(zah h1 h3).2.1,(zah h1 h4).2.1⟩
theorem zmj.set_ (h:zmj w wr U g m B B2 WL k out gv c A2 c2 y)(i:Nat)(u:Value)(y':Hav)(hi:i<3)
  (h0:[Value.string y'.path,.int .i64 y'.num,.string y'.loc]=[Value.string y.path,.int .i64 y.num,.string y.loc].set i u):zmj w (wr.setCell ⟨gv,k * 3+i,none⟩ u) U g m B B2 WL k out gv c A2 c2 y':=by
 obtain⟨h5,h6⟩:=h.gv_ge;have hUU:=h.UU;have hgU:=h.gU;have hb:Below w.heap.size wr (wr.setCell ⟨gv,k * 3+i,none⟩ u):=(Below.refl w.heap.size wr).setCell (p:=⟨gv,k * 3+i,none⟩) h6 u;have hg:=z6z wr gv (k * 3+i) u;obtain⟨xs,h1,h2,h3⟩:=h.own;have ht:zgm (wr.setCell ⟨gv,k * 3+i,none⟩ u) U g m:=h.tape.keep hg.size fun x hx=>hb.block x (by omega)
 refine⟨h.kept.onto hb,ht,⟨xs.set (k * 3+i) u,zag h1 u,fun j hj=>?_,?_⟩,z4q h.out hg (fun x hx e=>by injection e with e;have:=(h.out.lt x hx).1;have:=h.le2;omega),h.le,h.le2,h.gU,h.UU,Nat.le_trans h.b2 hg.size⟩
 ·rw[List.getElem?_set_ne (by omega)];exact h2 j hj
 ·have hl:∀ j,j<3→(xs.set (k * 3+i) u)[k * 3+j]? = ([Value.string y.path,.int .i64 y.num,.string y.loc].set i u)[j]?:=by
   intro j hj;have hx:xs[k * 3+j]? = [Value.string y.path,.int .i64 y.num,.string y.loc][j]?:=by
    match j,hj with
    | 0,_=>exact h3.1
    | 1,_=>exact h3.2.1
    | 2,_=>exact h3.2.2
   by_cases e:i=j
   ·subst e;rw[List.getElem?_set_self (by have:=(List.getElem?_eq_some_iff.1 h3.2.2).1;omega),List.getElem?_set_self hi]
   ·rw[List.getElem?_set_ne (by omega),List.getElem?_set_ne e,hx]
  rw[← h0] at hl;exact⟨hl 0 (by omega),hl 1 (by omega),hl 2 (by omega)⟩
structure HlSt (w wr:World)(U g m B B2:Nat)(WL:List Hav)(k:Nat)(out:List Hav)(lv:Value)(A2:Option Addr)(c2:Nat):Prop where
 kept:z6y [g] w wr
 tape:zgm wr U g m
 own:∃ xs,wr.ownsRow B 96 3 lv WL.length xs∧(∀ j,k * 3≤j→xs[j]? = (WL.flatMap Hav.cells)[j]?)
 out:wr.ownsRow B2 96 3 (.slice A2 out.length c2) out.length (out.flatMap Hav.cells)
 le:w.heap.size≤B
 le2:∀ x,lv.ownBlock=some x→x<B2
 gU:g<w.heap.size
 UU:U≤w.heap.size
 b2:B2≤wr.heap.size
theorem HlSt.into {lv:Value}(h:HlSt w wr U g m B B2 WL k out lv A2 c2)(hk:k<WL.length):∃ gv c,lv=.slice (some ⟨gv,0,none⟩) WL.length c∧zmj w wr U g m B B2 WL k out gv c A2 c2 WL[k]:=by
 obtain⟨xs,h1,h2⟩:=h.own;obtain⟨gv,c,e⟩:=z0s h1 (by omega)
 subst e;have hf:=fun j hj=>z44 Hav.cells 3 (fun _=>rfl) WL k j hk hj;exact⟨gv,c,rfl,h.kept,h.tape,⟨xs,h1,fun j hj=>h2 j (by omega),by have:=hf 0 (by omega);rw[Nat.add_zero] at this;rw[h2 _ (by omega),this];rfl,by rw[h2 _ (by omega),hf 1 (by omega)];rfl,by rw[h2 _ (by omega),hf 2 (by omega)];rfl⟩,h.out,h.le,h.le2 gv rfl,h.gU,h.UU,h.b2⟩
theorem zmj.back (h:zmj w wr U g m B B2 WL k out gv c A2 c2 y):HlSt w wr U g m B B2 WL (k+1) out (.slice (some ⟨gv,0,none⟩) WL.length c) A2 c2:=by
 obtain⟨xs,h1,h2,-⟩:=h.own;exact⟨h.kept,h.tape,⟨xs,h1,h2⟩,h.out,h.le,(fun x e=>by injection e with e;subst e;exact h.le2),h.gU,h.UU,h.b2⟩
theorem zmj.push {w6:World}{A':Option Addr}{c':Nat}(h:zmj w wr U g m B B2 WL k out gv c A2 c2 y)(ho:w6.ownsRow B2 96 3 (.slice A' (out.length+1) c') (out.length+1) (out.flatMap Hav.cells++[.string y.path,.int .i64 y.num,.string y.loc]))(hg:wr.grownBy w6 (Value.slice A2 out.length c2).ownBlock):
  HlSt w w6 U g m B B2 WL (k+1) (out++[y]) (.slice (some ⟨gv,0,none⟩) WL.length c) A' c':=by
 obtain⟨h5,h6⟩:=h.gv_ge;have hle2:=h.le2;have hK:z6y [g] w w6:=h.kept.grown_own hg (fun x e=>by have:=(h.out.lt x e).1;omega)
 obtain⟨xs,h1,h2,-⟩:=h.own;refine⟨hK,h.tape.keep hg.size fun x hx=>hg.block x (Nat.lt_of_lt_of_le hx (Nat.le_trans h.UU h.kept.size)) (fun e=>by have:=(h.out.lt x e.symm).1;have:=h.UU;omega),⟨xs,z4q h1 hg (fun x hx e=>by have:=(h.out.lt x e).1;have hx':gv=x:=(by injection hx);omega),h2⟩,?_,h.le,(fun x e=>by injection e with e;subst e;exact h.le2),h.gU,h.UU,Nat.le_trans h.b2 hg.size⟩
 rw[List.length_append,List.flatMap_append];exact ho
end
section
variable {hs ws : List Hav} {op dt : List ByteArray}
end
structure PlOk (D:List Rev)(es:List zdd):Prop where
 len:D.length≤1000
 six:∀ r∈D,r.path∈zfm
 num:∀ r∈D,1≤r.num
 shw:zfz es
 fwd:zfp (zdy es)
theorem plOk_of {D:List Rev}{n k:Nat}{es:List zdd}(hD:zmd D n)(hn:n≤1000)(hk:k<8)(he:es.map zdd.pl=zga k):PlOk D es:=
 ⟨Nat.le_trans hD.len hn,hD.six,zmf hD,(zgi hk he).1,(zfy k).of_congr (zgi hk he).2⟩
section
variable {D : List Rev} {es : List zdd} {hs : List Hav} {op dt : List ByteArray} {dv dr mv hv ov tv : Value} {w : World}
theorem zmk (h:PlOk D es)(m:Int)(he:Env w)(hR:z45 w dv D)(hE:zdn w mv es):Calls prog 8 #[.agg #[dv,dr],mv,.int .i64 m] w (zg6 w (zfr D (zdy es) m)):=
 zg7 D es m dv dr mv w he hR hE (by have:=h.len;omega) h.six h.shw
theorem zml (h:PlOk D es)(m:Int)(he:Env w)(hR:z45 w dv D)(hE:zdn w mv es)(hH:z4b w hv hs)(hOk:zf6 hs)(hl:hs.length≤100)(hop:Strs w ov op)(hdt:Strs w tv dt)(opl:op.length≤1000)(dtl:dt.length≤1000):
  Calls prog 12 #[.agg #[dv,dr],mv,.int .i64 m,hv,ov,tv] w (zkr w (zff hs (zfr D (zdy es) m) op dt)):=
 zky D es m hs op dt dv dr mv hv ov tv w he hR hE (by have:=h.len;omega) h.six h.shw h.num h.fwd hH hOk hl hop hdt opl dtl
end
def zmm:ByteArray:=⟨#[47,47,99,47,97]⟩
def zmn:ByteArray:=⟨#[47,47,99,47,98]⟩
def knRv (p:ByteArray):Rev:=⟨p,1,1,1,⟨1,false,false,false⟩,1,1,z2l,0⟩
def knD:List Rev:=[knRv knA,knRv knB]
def knH:List Hav:=[⟨knA,1,zmn⟩,⟨knB,1,zmm⟩]
def knWs:List Hav:=[⟨knA,1,zmm⟩,⟨knB,1,zmn⟩]
def knX:Syn:=⟨3,knA,1,zmn,zmm⟩
def knY:Syn:=⟨6,knB,1,zmm,zmn⟩
theorem zmo:zfr knD (zfx 0) 1=knWs:=by kernel_rfl
theorem kn_hav:zf6 knH:=by
 refine⟨?_,by decide +kernel,by decide +kernel⟩
 unfold z6c z5x knH;simp only[List.pairwise_cons,List.mem_singleton,forall_eq,List.not_mem_nil,false_implies,implies_true,List.Pairwise.nil,and_true]
 decide +kernel
theorem zmp:zfe knH knWs [knB] []=[knX,knY]:=by
 have c1:¬ z2u knA knA<0:=by decide +kernel
 have c2:¬ 0<z2u knA knA:=by decide +kernel
 have d1:¬ z2u knB knB<0:=by decide +kernel
 have d2:¬ 0<z2u knB knB:=by decide +kernel
 have e1:¬(⟨knA,1,zmn⟩:Hav)=⟨knA,1,zmm⟩:=fun h=>by injection h with _ _ h;exact absurd h (by decide)
 have e2:¬(⟨knB,1,zmm⟩:Hav)=⟨knB,1,zmn⟩:=fun h=>by injection h with _ _ h;exact absurd h (by decide)
 have h:z6i 4 knH knWs=[⟨0,knA,1,zmn,zmm⟩,⟨0,knB,1,zmm,zmn⟩]:=by
  unfold knH knWs;simp only[z6i,if_neg c1,if_neg c2,if_neg d1,if_neg d2,if_neg e1,if_neg e2]
  rfl
 show (z6i 4 knH knWs).map (zfd [knB] [])=_
 rw[h];kernel_rfl
theorem kn_blA:blB knH [knX,knY] knA=true:=zej.2 (Bl.stay (x:=knX) (y:=knY) (h:=⟨knB,1,zmm⟩) (List.mem_cons_self ..) rfl (by decide) (List.mem_cons_of_mem _ (List.mem_cons_self ..)) rfl (by decide) (by kernel_rfl) rfl)
theorem kn_blB:blB knH [knX,knY] knB=false:=by
 have key:∀ p,Bl knH [knX,knY] p→p=knA:=by
  intro p h;have go:∀ x:Syn,x∈[knX,knY]→z3o x.kind=false→x.path=knA:=fun x hx hk=>by
   simp only[List.mem_cons,List.not_mem_nil,or_false] at hx
   rcases hx with rfl | rfl
   ·rfl
   ·exact absurd hk (by decide)
  cases h with
  | free hx hk=>exact go _ hx hk
  | stay hx hk=>exact go _ hx hk
  | next hx hk=>exact go _ hx hk
 cases hb:blB knH [knX,knY] knB with
 | false=>rfl
 | true=>exact absurd (key knB (zej.1 hb)) (by decide)
theorem kn_plan:zff knH (zfr knD (zfx 0) 1) [knB] []=[⟨5,knA,1,zmn,zmm⟩,knY]:=by
 rw[zmo];unfold zff;rw[zmp];show [zek _ knX,zek _ knY]=_
 unfold zek;rw[show blB knH [knX,knY] knX.path=true from kn_blA,show blB knH [knX,knY] knY.path=false from kn_blB];rfl
theorem kn_plOk {es:List zdd}(he:es.map zdd.pl=zga 0):PlOk knD es:=
 ⟨by decide,by decide +kernel,by decide +kernel,(zgi (by decide) he).1,(zfy 0).of_congr (zgi (by decide) he).2⟩
theorem kn_fwd {es:List zdd}(he:es.map zdd.pl=zga 0):zfr knD (zdy es) 1=zfr knD (zfx 0) 1:=zgj (zgi (by decide) he).2
theorem znm (p q:Pat)(A B:Option Addr)(a b:Nat)(hv hu:Value)(w:World)(hp:zae w (.slice A p.parts.length a) p)(hq:zae w (.slice B q.parts.length b) q)(hm:zan p q=none)(hsym:zn6 p q):
  Calls prog 32 #[.agg #[.slice A p.parts.length a,.bool p.rest,hv],.agg #[.slice B q.parts.length b,.bool q.rest,hu]] w fun e w'=>e=.returned (.bool false)∧Below w.heap.size w w':=by
 obtain⟨W1,hW1⟩:∃ W,W=(w.alloc (.cells #[.slice A p.parts.length a,.bool p.rest,hv] 78)).alloc (.cells #[.slice B q.parts.length b,.bool q.rest,hu] 78):=⟨_,rfl⟩;have hA:Below w.heap.size w W1:=by rw[hW1];exact ((Below.refl _ _).alloc (Nat.le_refl _) _).alloc (by simp) _
 have h2:Blk W1 w.heap.size 78 [.slice A p.parts.length a,.bool p.rest,hv]:=by rw[hW1];exact (z0l w _ _).alloc _
 have h3:Blk W1 (w.heap.size+1) 78 [.slice B q.parts.length b,.bool q.rest,hu]:=by
  rw[hW1];have:=z0l (w.alloc (.cells #[.slice A p.parts.length a,.bool p.rest,hv] 78)) [.slice B q.parts.length b,.bool q.rest,hu] 78;simp only[World.size_alloc] at this
  exact this
 have HME:=hd_ (zm9 p q A B a b W1 (hp.below hA) (hq.below hA) hsym);have HM:=hd_ hm;have HA:=hd_ hA;have HW1:=hd_ hW1;obtain⟨x0,x1⟩:=(⟨h2.cell 0,h2.cell 1⟩:W1.cell? ⟨w.heap.size,0,none⟩=some (.slice A p.parts.length a)∧W1.cell? ⟨w.heap.size,1,none⟩=some (.bool p.rest));obtain⟨y0,y1⟩:=(⟨h3.cell 0,h3.cell 1⟩:W1.cell? ⟨w.heap.size+1,0,none⟩=some (.slice B q.parts.length b)∧W1.cell? ⟨w.heap.size+1,1,none⟩=some (.bool q.rest));clear hp hq hm hA hW1 h2 h3 hsym;go_enter func32,ntmps32;go_upto_region 1 with fail;rw[← HW1.out];go_wp2_with fail;refine HME.out.mono ?_;rintro e w4 ⟨hb,⟨-,rfl⟩ | ⟨m',A6,c6,hmm,-⟩⟩
 case inr=>rw[HM.out] at hmm;cases hmm
 dsimp only;have HB:=hd_ (z0r HA.out hb);have hX:Below w4.heap.size w4 (w4.alloc (.cells #[.slice none 0 0,.bool false] 68)):=(Below.refl _ _).alloc (Nat.le_refl _) _;have HB5:=hd_ (z0r HB.out hX);clear x0 x1 y0 y1 hb hX;go_wp2_with fail;go_ret;exact⟨rfl,HB5.out⟩
open Go.Sort (grow)
section
variable {u0 u1 u2 u3 u4 u5 u6 u7 u8 u9 gz gA gC gD gE gF gG gH gI gJ gK gL gM gN gO gP gQ gR gT gV gW gX gY gZ i6 i7 i8 ia ib ic ie ig ii ij ik il im io ip iq ir iu iv iw ix iy iz iA iB iC iD iE iF iG iH iI iJ iK iL iM iN iO iP iQ iR iS iT iU iV iW iX iY iZ j0 j1 j2 j5 j6 j7 j8 j9 jb : Value}
theorem rcR24 (ops:Array Oper)(hops:Tryz.f7.body.bind (zcn 24)=some ops)(Q:Exit→Act→World→Prop)(V:World)(g11 g12 g15 g16:Nat)(p q r s:Pat)(A B C D H1 H2 H3 H4:Option Addr)(a b c d n1 n2 n3 n4 c1 c2 c3 c4:Nat)
  (h11:Blk V g11 71 [.slice A p.parts.length a,.bool p.rest,.slice C r.parts.length c,.bool r.rest,.slice H1 n1 c1])
  (h15:Blk V g15 71 [.slice B q.parts.length b,.bool q.rest,.slice D s.parts.length d,.bool s.rest,.slice H2 n2 c2])
  (h12:Blk V g12 78 [.slice C r.parts.length c,.bool r.rest,.slice H3 n3 c3])
  (h16:Blk V g16 78 [.slice D s.parts.length d,.bool s.rest,.slice H4 n4 c4])
  (hp:zae V (.slice A p.parts.length a) p) (hq:zae V (.slice B q.parts.length b) q) (hr:zae V (.slice C r.parts.length c) r) (hs:zae V (.slice D s.parts.length d) s)
  (hm1:zan p q=none) (hm2:zan r s=none) (hs1:zn6 p q) (hs2:zn6 r s)
  (hQ:∀(fS fT fU fV fW fX fY fZ ga:Value) (w':World),Below V.heap.size V w'→Q .normal ⟨#[u0,u1,u2,u3,u4,u5,u6,u7,u8,u9,gz,.pointer (some ⟨g11,0,none⟩),.pointer (some ⟨g12,0,none⟩),gD,gE,.pointer (some ⟨g15,0,none⟩),.pointer (some ⟨g16,0,none⟩),gH,gI,gJ,gK,gL,gM,gN,gO,gP,gQ,gR,gT,gV,gW,gX,gY,gZ,i6,i7,i8,ia,ib,ic,ie,ig,ii,ij,ik,il,im,io,ip,iq,ir,iu,iv,iw,ix,iy,iz,iA,iB,iC,iD,iE,iF,iG,iH,iI,iJ,iK,iL,iM,iN,iO,iP,iQ,iR,iS,iT,iU,iV,fS,fT,fU,fV,fW,fX,fY,fZ,ga,.bool false,j8,j9,jb],[]⟩ w'):
  (Code.region 24 ops true).wp prog Q ⟨#[u0,u1,u2,u3,u4,u5,u6,u7,u8,u9,gz,.pointer (some ⟨g11,0,none⟩),.pointer (some ⟨g12,0,none⟩),gD,gE,.pointer (some ⟨g15,0,none⟩),.pointer (some ⟨g16,0,none⟩),gH,gI,gJ,gK,gL,gM,gN,gO,gP,gQ,gR,gT,gV,gW,gX,gY,gZ,i6,i7,i8,ia,ib,ic,ie,ig,ii,ij,ik,il,im,io,ip,iq,ir,iu,iv,iw,ix,iy,iz,iA,iB,iC,iD,iE,iF,iG,iH,iI,iJ,iK,iL,iM,iN,iO,iP,iQ,iR,iS,iT,iU,iV,iW,iX,iY,iZ,j0,j1,j2,j5,j6,j7,j8,j9,jb],[]⟩ V:=by
 simp only[Tryz.f7,Option.bind_some,zcn] at hops
 simp at hops
 subst hops;have HQ:=hd_ hQ;have bR:∀ d os,Below V.heap.size V (grow (redrawn V d) os):=fun d os=>below_regrown V d os;have cL1:∀ d os,Calls prog 30 #[.agg #[.slice A p.parts.length a,.bool p.rest,.slice C r.parts.length c,.bool r.rest,.slice H1 n1 c1]] (grow (redrawn V d) os) fun e w''=>e=.returned (.agg #[.slice A p.parts.length a,.bool p.rest,.slice H1 n1 c1])∧∃ p:Regrown,w''=grow (redrawn V p.d) p.os:=fun d os=>Calls.regrown_of (zna A H1 p.parts.length a n1 c1 p.rest r.rest _ _);have cL2:∀ d' os,Calls prog 30 #[.agg #[.slice B q.parts.length b,.bool q.rest,.slice D s.parts.length d,.bool s.rest,.slice H2 n2 c2]] (grow (redrawn V d') os) fun e w''=>e=.returned (.agg #[.slice B q.parts.length b,.bool q.rest,.slice H2 n2 c2])∧∃ p:Regrown,w''=grow (redrawn V p.d) p.os:=fun d' os=>Calls.regrown_of (zna B H2 q.parts.length b n2 c2 q.rest s.rest _ _);have cC1:∀ d' os,Calls prog 32 #[.agg #[.slice A p.parts.length a,.bool p.rest,.slice H1 n1 c1],.agg #[.slice B q.parts.length b,.bool q.rest,.slice H2 n2 c2]] (grow (redrawn V d') os) fun e w''=>e=.returned (.bool false)∧∃ p:Regrown,w''=grow (redrawn V p.d) p.os:=fun d' os=>Calls.regrown_of (znm p q A B a b _ _ _ (hp.below (bR d' os)) (hq.below (bR d' os)) hm1 hs1);have cC2:∀ d' os,Calls prog 32 #[.agg #[.slice C r.parts.length c,.bool r.rest,.slice H3 n3 c3],.agg #[.slice D s.parts.length d,.bool s.rest,.slice H4 n4 c4]] (grow (redrawn V d') os) fun e w''=>e=.returned (.bool false)∧∃ p:Regrown,w''=grow (redrawn V p.d) p.os:=fun d' os=>Calls.regrown_of (znm r s C D c d _ _ _ (hr.below (bR d' os)) (hs.below (bR d' os)) hm2 hs2);have x0:=cell_regrown (h11.cell 0);have x1:=cell_regrown (h11.cell 1);have x2:=cell_regrown (h11.cell 2);have x3:=cell_regrown (h11.cell 3);have x4:=cell_regrown (h11.cell 4);have y0:=cell_regrown (h15.cell 0);have y1:=cell_regrown (h15.cell 1);have y2:=cell_regrown (h15.cell 2);have y3:=cell_regrown (h15.cell 3);have y4:=cell_regrown (h15.cell 4);have u0:=cell_regrown (h12.cell 0)
 have u1:=cell_regrown (h12.cell 1);have u2:=cell_regrown (h12.cell 2);have v0:=cell_regrown (h16.cell 0);have v1:=cell_regrown (h16.cell 1);have v2:=cell_regrown (h16.cell 2);clear hQ h11 h12 h15 h16 hp hq hr hs hm1 hm2 hs1 hs2 bR;refine wp_region_quiet_below (by kernel_rfl) (by kernel_rfl) ?_
 iterate 2 (first | go_big_quiet_step (exact cL1 _ _) | quiet_step (exact cL1 _ _))
 iterate 2 (first | go_big_quiet_step (exact cL2 _ _) | quiet_step (exact cL2 _ _))
 iterate 2 (first | go_big_quiet_step (exact cC1 _ _) | quiet_step (exact cC1 _ _))
 repeat (first | go_big_quiet_step (exact cC2 _ _) | quiet_step (exact cC2 _ _))
 refine wpQuiet_nil ?_;intro _ hw9;obtain⟨⟨dq,osq⟩,hw9⟩:=hw9;subst hw9;exact HQ.out _ _ _ _ _ _ _ _ _ _ (below_regrown V dq osq)
end
theorem rcT16 (T:Code)(hT:Tryz.f7.body.bind (zi2 16)=some T)(P:Ending→World→Prop)(W:World)(A:Option Addr)(c:Nat)(es:List zdd)(hE:zdn W (.slice A es.length c) es)(hl:es.length≤32)
  (hap:∀(i j:Nat) (hi:i<es.length) (hj:j<i),(zan es[i].l.1 (es[j]'(Nat.lt_trans hj hi)).l.1=none∧zan es[i].r.1 (es[j]'(Nat.lt_trans hj hi)).r.1=none)∧zn6 es[i].l.1 (es[j]'(Nat.lt_trans hj hi)).l.1∧zn6 es[i].r.1 (es[j]'(Nat.lt_trans hj hi)).r.1)
  (hR:∀ x∈es,∀ X,Below W.heap.size W X→Calls prog 31 #[x.val] X (znf X x.r.v x.r.1.rest))
  (hP:∀ w',Below W.heap.size W w'→P (.returned (.tuple #[.int .i64 0,.int .i64 0])) w')
  (u1 u2 u3 u4 u5 u6 u7 u8 u9 gz gA gC gD gE gF gG gH gI gJ gK gL gM gN gO gP gQ gR gT gV gW gX gY gZ i6 i7 i8 ia ib ic ie ig ii ij ik il im io ip iq ir iu iv iw ix iy iz iA iB iC iD iE iF iG iH iI iJ iK iL iM iN iO iP iQ iR iS iT iU iV iW iX iY iZ j0 j1 j2 j5 j6 j7 j8 j9 jb:Value):
  T.wp prog (bodyPost prog Tryz.f7 P) ⟨#[.slice A es.length c,u1,u2,u3,u4,u5,u6,u7,u8,u9,gz,gA,gC,gD,gE,gF,gG,gH,gI,gJ,gK,gL,gM,gN,gO,gP,gQ,gR,gT,gV,gW,gX,gY,gZ,i6,i7,i8,ia,ib,ic,ie,ig,ii,ij,ik,il,im,io,ip,iq,ir,iu,iv,iw,ix,iy,iz,iA,iB,iC,iD,iE,iF,iG,iH,iI,iJ,iK,iL,iM,iN,iO,iP,iQ,iR,iS,iT,iU,iV,iW,iX,iY,iZ,j0,j1,j2,j5,j6,j7,j8,j9,jb],[]⟩ W:=by
 simp only[Tryz.f7,Option.bind_some,zi2,zi1] at hT
 simp at hT
 subst hT;have HE:=hd_ (fun X (hX:Below W.heap.size W X)=>hE.below hX);have HR:=hd_ hR;have HAP:=hd_ hap;have HP:=hd_ hP;have hcc:es.length≤c:=by obtain⟨A',c',e,h1,-⟩:=id hE.1;injection e with e1 e2 e3;omega
 clear hE hR hap hP;go_wp2_with fail;go_loopw [56] (fun i wr=>∃ k:Nat,i=.int .i64 k∧k≤es.length∧Hid (Below W.heap.size W wr)) (fun i _=>es.length - (intOf i).toNat)
 case atStart=>exact⟨0,rfl,Nat.zero_le _,hd_ (Below.refl _ _)⟩
 case round =>
  obtain⟨k,rfl,hk,HI⟩:=hrel;by_cases hlt:k<es.length
  ·have HEX:=hd_ (HE.out wr HI.out);obtain⟨ad,rfl,hab,s0,s1,s2,s3,s4⟩:=HEX.out.at_ hlt;have HXI:=hd_ (HEX.out.2 es[k] (List.getElem_mem hlt));have HXR:=hd_ (HR.out es[k] (List.getElem_mem hlt));have HAK:=hd_ (fun j (hj:j<k)=>HAP.out k j hlt hj);generalize es[k]=x at s0 s1 s2 s3 s4 HXI HXR HAK;obtain⟨H,hc,hhv⟩:=HXI.out.holes;obtain⟨⟨pl,Al,cl⟩,⟨pr,Ar,cr⟩,hv,hs⟩:=x;change hv=.slice H hs.length hc at hhv;subst hhv;change wr.cell? _=some (.slice Al pl.parts.length cl) at s0;change wr.cell? _=some (.bool pl.rest) at s1;change wr.cell? _=some (.slice Ar pr.parts.length cr) at s2;change wr.cell? _=some (.bool pr.rest) at s3;change wr.cell? _=some (.slice H hs.length hc) at s4;have hX:Below wr.heap.size wr (wr.alloc (.cells #[.slice Al pl.parts.length cl,.bool pl.rest,.slice Ar pr.parts.length cr,.bool pr.rest,.slice H hs.length hc] 71)):=(Below.refl _ _).alloc (Nat.le_refl _) _;have HX:=hd_ (z0r HI.out hX);have HN:Hid (Blk _ _ 71 [.slice Al pl.parts.length cl,.bool pl.rest,.slice Ar pr.parts.length cr,.bool pr.rest,.slice H hs.length hc]):=hd_ (z0l wr _ _);have HXP:=hd_ (HXI.out.below hX);have hpre:=fun X=>zdq (P:=prog) (t:=23) (n:=es.length) (c:=c) (k:=k) (A:=some ad) underlying23 zdr (by omega) X
   have HPR:=hd_ hpre;have HLT:=hd_ hlt;clear hab hX hpre;go_upto_region 19 with fail;generalize wr.alloc (.cells #[.slice Al pl.parts.length cl,.bool pl.rest,.slice Ar pr.parts.length cr,.bool pr.rest,.slice H hs.length hc] 71)=W4 at HX HN HXP ⊢;generalize wr.heap.size=g11 at HN ⊢;clear s0 s1 s2 s3 s4;obtain⟨x0,x1,x2,x3,x4⟩:=(⟨HN.out.cell 0,HN.out.cell 1,HN.out.cell 2,HN.out.cell 3,HN.out.cell 4⟩:W4.cell? ⟨g11,0,none⟩=some (.slice Al pl.parts.length cl)∧W4.cell? ⟨g11,1,none⟩=some (.bool pl.rest)∧W4.cell? ⟨g11,2,none⟩=some (.slice Ar pr.parts.length cr)∧W4.cell? ⟨g11,3,none⟩=some (.bool pr.rest)∧W4.cell? ⟨g11,4,none⟩=some (.slice H hs.length hc));have HRC:Hid (Calls prog 31 #[.agg #[.slice Al pl.parts.length cl,.bool pl.rest,.slice Ar pr.parts.length cr,.bool pr.rest,.slice H hs.length hc]] W4 (znf W4 (.slice Ar pr.parts.length cr) pr.rest)):=hd_ (HXR.out W4 HX.out);go_wp2_with fail;refine HRC.out.mono ?_;rintro e w5 ⟨hb,H9,n9,c9,rfl⟩;dsimp only;have hX5:Below w5.heap.size w5 (w5.alloc (.cells #[.slice Ar pr.parts.length cr,.bool pr.rest,.slice H9 n9 c9] 78)):=(Below.refl _ _).alloc (Nat.le_refl _) _;have hb6:=z0r hb hX5;have HB6:=hd_ (z0r HX.out hb6);have HE6:=hd_ (HN.out.below hb6 HN.out.lt);have HX6:=hd_ (HXP.out.below hb6);have HG6:Hid (Blk _ _ 78 [.slice Ar pr.parts.length cr,.bool pr.rest,.slice H9 n9 c9]):=hd_ (z0l w5 _ _);clear hb hX5 hb6 x0 x1 x2 x3 x4 HRC HN HXP;go_upto_region 20 with fail;generalize w5.alloc (.cells #[.slice Ar pr.parts.length cr,.bool pr.rest,.slice H9 n9 c9] 78)=W6 at HB6 HE6 HX6 HG6 ⊢;generalize w5.heap.size=g12 at HG6 ⊢;have hpre:=HPR.out;go_wp2_with fail;clear hpre;go_loopw [70] (fun i wr=>∃ j:Nat,i=.int .i64 j∧j≤k∧Hid (Below W6.heap.size W6 wr)) (fun i _=>k - (intOf i).toNat)
   case atStart=>exact⟨0,rfl,Nat.zero_le _,hd_ (Below.refl _ _)⟩
   case round =>
    obtain⟨j,rfl,hj,HJ⟩:=hrel;by_cases hlj:j<k
    ·have hje:j<es.length:=by have:=HLT.out;omega
     have HEY:=hd_ (HE.out wr (z0r HB6.out HJ.out));obtain⟨ad2,had,hab,s0,s1,s2,s3,s4⟩:=HEY.out.at_ hje;injection had with had
     subst had;have HYI:=hd_ (HEY.out.2 es[j] (List.getElem_mem hje));have HYR:=hd_ (HR.out es[j] (List.getElem_mem hje));have HAJ:=hd_ (HAK.out j hlj);generalize es[j]=y at s0 s1 s2 s3 s4 HYI HYR HAJ;obtain⟨Hy,hcy,hhv⟩:=HYI.out.holes;obtain⟨⟨ql,Bl,dl⟩,⟨qr,Br,dr⟩,hv,hsy⟩:=y;change hv=.slice Hy hsy.length hcy at hhv;subst hhv;change wr.cell? _=some (.slice Bl ql.parts.length dl) at s0;change wr.cell? _=some (.bool ql.rest) at s1;change wr.cell? _=some (.slice Br qr.parts.length dr) at s2;change wr.cell? _=some (.bool qr.rest) at s3;change wr.cell? _=some (.slice Hy hsy.length hcy) at s4;have hX:Below wr.heap.size wr (wr.alloc (.cells #[.slice Bl ql.parts.length dl,.bool ql.rest,.slice Br qr.parts.length dr,.bool qr.rest,.slice Hy hsy.length hcy] 71)):=(Below.refl _ _).alloc (Nat.le_refl _) _;have HJ7:=hd_ (z0r HJ.out hX);have HN7:Hid (Blk _ _ 71 [.slice Bl ql.parts.length dl,.bool ql.rest,.slice Br qr.parts.length dr,.bool qr.rest,.slice Hy hsy.length hcy]):=hd_ (z0l wr _ _);have HYP:=hd_ (HYI.out.below hX);have HLJ:=hd_ hlj;clear hab hX;go_upto_region 23 with fail;generalize wr.alloc (.cells #[.slice Bl ql.parts.length dl,.bool ql.rest,.slice Br qr.parts.length dr,.bool qr.rest,.slice Hy hsy.length hcy] 71)=W7 at HJ7 HN7 HYP ⊢;generalize wr.heap.size=g15 at HN7 ⊢;clear s0 s1 s2 s3 s4;obtain⟨x0,x1,x2,x3,x4⟩:=(⟨HN7.out.cell 0,HN7.out.cell 1,HN7.out.cell 2,HN7.out.cell 3,HN7.out.cell 4⟩:W7.cell? ⟨g15,0,none⟩=some (.slice Bl ql.parts.length dl)∧W7.cell? ⟨g15,1,none⟩=some (.bool ql.rest)∧W7.cell? ⟨g15,2,none⟩=some (.slice Br qr.parts.length dr)∧W7.cell? ⟨g15,3,none⟩=some (.bool qr.rest)∧W7.cell? ⟨g15,4,none⟩=some (.slice Hy hsy.length hcy));have HRC:Hid (Calls prog 31 #[.agg #[.slice Bl ql.parts.length dl,.bool ql.rest,.slice Br qr.parts.length dr,.bool qr.rest,.slice Hy hsy.length hcy]] W7 (znf W7 (.slice Br qr.parts.length dr) qr.rest)):=hd_ (HYR.out W7 (z0r HB6.out HJ7.out));go_wp2_with fail;refine HRC.out.mono ?_;rintro e w8 ⟨hb,H8,n8,c8,rfl⟩;dsimp only;have hX8:Below w8.heap.size w8 (w8.alloc (.cells #[.slice Br qr.parts.length dr,.bool qr.rest,.slice H8 n8 c8] 78)):=(Below.refl _ _).alloc (Nat.le_refl _) _
     have hb9:=z0r hb hX8;have HJ9:=hd_ (z0r HJ7.out hb9);have h15:=HN7.out.below hb9 HN7.out.lt;have hy9:=HYP.out.below hb9;have h16:Blk _ _ 78 [.slice Br qr.parts.length dr,.bool qr.rest,.slice H8 n8 c8]:=z0l w8 _ _;have HC9:=hd_ (And.intro h15 (And.intro hy9 h16));clear hb hX8 hb9 x0 x1 x2 x3 x4 HRC HN7 HYP h15 hy9 h16;go_upto_region 24 with fail;generalize w8.alloc (.cells #[.slice Br qr.parts.length dr,.bool qr.rest,.slice H8 n8 c8] 78)=W9 at HJ9 HC9 ⊢;generalize w8.heap.size=g16 at HC9 ⊢;have hx9:=HX6.out.below HJ9.out;refine rcR24 _ (by kernel_rfl) _ W9 g11 g12 g15 g16 pl ql pr qr Al Bl Ar Br H Hy H9 H8 cl dl cr dr hs.length hsy.length n9 n8 hc hcy c9 c8 (HE6.out.below HJ9.out HE6.out.lt) HC9.out.1 (HG6.out.below HJ9.out HG6.out.lt) HC9.out.2.2 hx9.l HC9.out.2.1.l hx9.r HC9.out.2.1.r HAJ.out.1.1 HAJ.out.1.2 HAJ.out.2.1 HAJ.out.2.2 ?_
     intro fS fT fU fV fW fX fY fZ ga w' hb';have HBN:=hd_ (z0r HJ9.out hb');clear hb' hx9;go_wp2_with fail;go_roundw
     case rel=>exact⟨j+1,by go_num,by have:=HLJ.out;omega,HBN⟩
     case measure=>have:=HLJ.out;simp [intOf];omega
    ·have hke:j=k:=by omega
     subst hke;have HBE:=hd_ (z0r HB6.out HJ.out);have hge:¬((j:Int)<(j:Int)):=by omega
     go_wp2_with fail;go_roundw
     case rel=>exact⟨j+1,by go_num,by have:=HLT.out;omega,HBE⟩
     case measure=>have:=HLT.out;simp [intOf];omega
  ·have hke:k=es.length:=by omega
   subst hke;have HB:=hd_ HI.out;have hge:¬((es.length:Int)<(es.length:Int)):=by omega
   go_wp2_with fail;exact HP.out _ HB.out
theorem znn (p:Pat)(b:Bool)(hbr:p.rest=b)(A:Option Addr)(c:Nat)(w:World)(hp:zae w (.slice A p.parts.length c) p)(h0:z7j p=0):
  Calls prog 165 #[.agg #[.slice A p.parts.length c,.bool b]] w fun e w'=>e=.returned (.int .i64 ((za7 p+(if b then 1 else 0):Nat):Int))∧Below w.heap.size w w':=by
 have hA:Below w.heap.size w (w.alloc (.cells #[.slice A p.parts.length c,.bool b] 68)):=(Below.refl _ _).alloc (Nat.le_refl _) _;have h2:zbt (w.alloc (.cells #[.slice A p.parts.length c,.bool b] 68)) w.heap.size (.slice A p.parts.length c) b:=z0l w [.slice A p.parts.length c,.bool b] 68;have HK:Hid (Calls prog 61 #[.agg #[.slice A p.parts.length c,.bool b]] (w.alloc (.cells #[.slice A p.parts.length c,.bool b] 68)) fun e w'=>e=.returned (.tuple #[.int .i64 (za7 p),.bool b])∧Below (w.alloc (.cells #[.slice A p.parts.length c,.bool b] 68)).heap.size (w.alloc (.cells #[.slice A p.parts.length c,.bool b] 68)) w'):=hd_ (by
  have:=zmx p A c _ (hp.below hA) h0;unfold zmw at this;rw[hbr] at this;exact this)
 have HA:=hd_ hA;have hs12:za7 p≤12:=Nat.le_trans (List.length_filter_le ..) (zat h0);have x0:=h2.c0;have x1:=h2.c1;clear hp hbr h0 hA h2;go_enter func165,ntmps165;cases b
 all_goals
  go_wp2_with fail;refine HK.out.mono ?_;rintro e w2 ⟨rfl,hb⟩;dsimp only;have HB:=hd_ (z0r HA.out hb);clear hb x0 x1;go_wp2_with fail;go_ret;exact⟨by simp,HB.out⟩
structure RfSt (w2 wr:World)(parts caps:List ByteArray)(k:Nat)(done:List ByteArray)(av:Value):Prop where
 low:Below w2.heap.size w2 wr
 own:wr.ownsRow w2.heap.size 9 1 av k (done.map .string)
 len:done.length=k
 is:done++zbx (parts.drop k) (caps.drop (za6 parts k))=zbx parts caps
theorem RfSt.plain {w2 wr wy:World}{parts caps:List ByteArray}{k:Nat}{done:List ByteArray}{av av':Value}(h:RfSt w2 wr parts caps k done av)(hk:k<parts.length)(hs:z7e parts[k]=false)(hl:Below w2.heap.size w2 wy)(ho:wy.ownsRow w2.heap.size 9 1 av' (k+1) ((done++[parts[k]]).map .string)):
  RfSt w2 wy parts caps (k+1) (done++[parts[k]]) av':=by
 have e:za6 parts (k+1)=za6 parts k:=by rw[za8 hk,hs];rfl
 refine⟨hl,ho,by rw[List.length_append,h.len];rfl,?_⟩
 rw[e,← h.is,List.drop_eq_getElem_cons hk];conv=>rhs;unfold zbx
 rw[hs];simp
theorem RfSt.star {w2 wr wy:World}{parts caps:List ByteArray}{k:Nat}{done r:List ByteArray}{c:ByteArray}{av av':Value}(h:RfSt w2 wr parts caps k done av)(hk:k<parts.length)(hs:z7e parts[k]=true)(hr:caps.drop (za6 parts k)=c :: r)(hl:Below w2.heap.size w2 wy)(ho:wy.ownsRow w2.heap.size 9 1 av' (k+1) ((done++[c++z85 parts[k]]).map .string)):
  RfSt w2 wy parts caps (k+1) (done++[c++z85 parts[k]]) av':=by
 have e:za6 parts (k+1)=za6 parts k+1:=by rw[za8 hk,hs];rfl
 have e2:caps.drop (za6 parts (k+1))=r:=by rw[e,← List.drop_drop,hr];rfl
 refine⟨hl,ho,by rw[List.length_append,h.len];rfl,?_⟩
 rw[e2,← h.is,List.drop_eq_getElem_cons hk,hr];conv=>rhs;unfold zbx
 rw[hs];simp
theorem zno {w W w':World}{row:Option Nat}(h:Below w.heap.size w W)(hg:W.grownBy w' row)(hr:∀ k,row=some k→w.heap.size≤k):Below w.heap.size w w':=
 ⟨hg.os.trans h.os,hg.tape.trans h.tape,hg.output.trans h.output,Nat.le_trans h.size hg.size,fun k hk=>(hg.block k (Nat.lt_of_lt_of_le hk h.size) (fun e=>by have:=hr k e.symm;omega)).trans (h.block k hk)⟩
theorem znp (xs ys zs:List (List UInt8))(h1:ys≠[])(h2:zs≠[])(h:Lib.join ys [47]=Lib.join zs [47]):Lib.join (xs++ys) [47]=Lib.join (xs++zs) [47]:=by
 induction xs with
 | nil=>exact h
 | cons x xs ih =>
  rw[List.cons_append,List.cons_append,z1h x (xs++ys) (by simp [h1]),z1h x (xs++zs) (by simp [h2]),ih]
theorem znq (xs:List (List UInt8))(l:List UInt8):Lib.join (xs++z1a l) [47]=Lib.join (xs++[l]) [47]:=
 znp xs _ _ (z1b l) (by simp) (by rw[z1i];simp [Lib.join])
theorem znr (p:Pat)(b:Bool)(hbr:p.rest=b)(caps:List ByteArray)(A:Option Addr)(a:Nat)(cv:Value)(w:World)(he:Env w)(hp:zae w (.slice A p.parts.length a) p)(hc:Strs w cv caps)(hf:zc0 p caps):
  Calls prog 196 #[.agg #[.slice A p.parts.length a,.bool b],cv] w fun e w'=>e=.returned (.tuple #[.string (zbz p caps),.int .i64 0])∧Below w.heap.size w w':=by
 have hB:=z0l w [.slice A p.parts.length a,.bool b] 68;have hA:Below w.heap.size w (w.alloc (.cells #[.slice A p.parts.length a,.bool b] 68)):=(Below.refl _ _).alloc (Nat.le_refl _) _;have HKC:Hid (∀ X,Below w.heap.size w X→Calls prog 60 #[.agg #[.slice A p.parts.length a,.bool b]] X fun e w'=>e=.returned (.int .i64 0)∧Below X.heap.size X w'):=hd_ (fun X hX=>by have:=zcf p A a X (hp.below hX).1 hp.small;rw[hbr,hf.pat] at this;exact this)
 have HW:=hd_ (fun X (hX:Below w.heap.size w X)=>znn p b hbr A a X (hp.below hX) hf.pat);have HP:=hd_ hp;have HC:=hd_ hc;have HF:=hd_ hf;have HE:=hd_ he;have hl12:=zat hf.pat;have hs12:za7 p≤12:=Nat.le_trans (List.length_filter_le ..) hl12;obtain⟨Ac,cc,rfl,-⟩:=id hc;obtain⟨nc,hnc⟩:∃ nc,caps.length=nc:=⟨_,rfl⟩;have hlen:nc=za7 p+(if b then 1 else 0):=hnc.symm.trans (by rw[hf.len,hbr])
 have HNC:=hd_ hnc;rw[hnc];have HBR:=hd_ hbr;clear hp hc hf he hnc hbr;rw[← hlen] at HW;have HLEN:=hd_ hlen;have q0:((nc:Int) != (nc:Int))=false:=by simp
 clear hlen;go_enter func196,ntmps196;go_upto_region 1 with fail;generalize w.alloc (.cells #[.slice A p.parts.length a,.bool b] 68)=W1 at hB hA ⊢;have d0:W1.cell? ⟨w.heap.size,0,none⟩=some (.slice A p.parts.length a):=hB.cell 0;have d1:W1.cell? ⟨w.heap.size,1,none⟩=some (.bool b):=hB.cell 1;have HB:=hd_ hB;have HA:=hd_ hA;have HK1:=hd_ (HKC.out W1 hA);clear hB hA HKC;go_wp2_with fail;refine HK1.out.mono ?_;rintro e w2 ⟨rfl,hb⟩;dsimp only;have HA2:=hd_ (z0r HA.out hb);have HB2:=hd_ (HB.out.below hb HB.out.lt);have HW2:=hd_ (HW.out w2 HA2.out);clear hb d0 d1 HK1 HB HA HW;have d0:w2.cell? ⟨w.heap.size,0,none⟩=some (.slice A p.parts.length a):=HB2.out.cell 0;have d1:w2.cell? ⟨w.heap.size,1,none⟩=some (.bool b):=HB2.out.cell 1;go_wp2_with fail;refine HW2.out.mono ?_;rintro e w3 ⟨rfl,hb⟩;dsimp only;have HA3:=hd_ (z0r HA2.out hb);have HB3:=hd_ (HB2.out.below hb HB2.out.lt);clear hb d0 d1 HW2 HB2 HA2;have d0:w3.cell? ⟨w.heap.size,0,none⟩=some (.slice A p.parts.length a):=HB3.out.cell 0;go_wp2_with fail;go_loopw [7,8,28] (fun av z i wr=>∃(k:Nat) (done:List ByteArray) (A2:Option Addr) (c2:Nat),i=.int .i64 k∧z=.int .i64 (za6 p.parts k)∧av=.slice A2 k c2∧k≤p.parts.length∧Hid (RfSt w3 wr p.parts caps k done av)) (fun _ _ i _=>p.parts.length - (intOf i).toNat)
 case atStart=>exact⟨0,[],_,_,rfl,by simp [za6],rfl,Nat.zero_le _,hd_ ⟨Below.refl _ _,World.ownsRow_nil _ _ _ _,rfl,by simp [za6]⟩⟩
 case round =>
  obtain⟨k,done,A2,c2,rfl,rfl,rfl,hk,HI⟩:=hrel;clear d0;by_cases hlt:k<p.parts.length
  ·have HPX:=hd_ (HP.out.below (z0r HA3.out HI.out.low));obtain⟨ad,rfl,hab,s0⟩:=Strs.at_ HPX.out.1 hlt;have hform:=zch HF.out.pat hlt;have HT:Hid (∀ X,Calls prog 111 #[.string p.parts[k]] X fun e w'=>e=.returned (.tuple #[.string (if z7e p.parts[k] then z85 p.parts[k] else z2l),.bool (z7e p.parts[k])])∧X=w'):=hd_ (fun X=>by
    have:=z9s p.parts[k] X (HP.out.small _ (List.getElem_mem hlt));unfold z9p at this;rw[z9g hform] at this;exact this)
   have HSZ:=hd_ (HP.out.2 _ (List.getElem_mem hlt));have HLT:=hd_ hlt;have HSP:=hd_ (fun wy av'=>HI.out.plain (wy:=wy) (av':=av') hlt);have HSS:=hd_ (fun wy av' r c=>HI.out.star (wy:=wy) (av':=av') (r:=r) (c:=c) hlt);have HRM:=hd_ (fun h=>zc6 hlt h);have HNX:=hd_ (za8 hlt);have HSU:=hd_ (show (z85 p.parts[k]).size≤p.parts[k].size from by unfold z85;rw[ByteArray.size_extract];omega)
   generalize p.parts[k]=part at s0 HT HSP HSS HRM HSZ HNX HSU;obtain⟨st,hst⟩:∃ st,z7e part=st:=⟨_,rfl⟩;have HST:=hd_ hst;rw[hst] at HT HNX;clear hst hab hform;have HOW:=hd_ HI.out.own;have HBI:=hd_ HI.out.low;cases st with
   | false =>
    have hnx:za6 p.parts (k+1)=za6 p.parts k:=by rw[HNX.out];rfl
    have HNX2:=hd_ hnx;clear hnx;go_wp2_with fail;refine (HT.out _).mono ?_;rintro e w' ⟨rfl,rfl⟩;dsimp only;go_wp2_with (at_builtin;refine z0k rfl rfl z8c (z0n HOW.out ((Below.refl _ _).alloc (Nat.le_refl _) _)) rfl (z0i _ [.string part] _ 1 1 rfl (by decide) _ (by simp)) rfl (HBI.out.alloc HBI.out.size _) (HBI.out.alloc HBI.out.size _).size (by simp [Value.oneCell']) (by omega) (by unfold maxLen;omega) ?_;intro A' c' w5 hown5 hbl5)
    have HN:=hd_ (HSP.out w5 (.slice A' (k+1) c') HST.out hbl5 (by rw[List.map_append];exact hown5))
    clear hown5 hbl5;go_wp2_with fail;go_roundw
    case rel=>exact⟨k+1,done++[part],_,_,by go_num,by rw[HNX2.out],rfl,by have:=HLT.out;omega,HN⟩
    case measure=>have:=HLT.out;simp [intOf];omega
   | true =>
    have hroom:=HRM.out HST.out;have h3:=HF.out.len;have hlc:za6 p.parts k<caps.length:=by omega
    obtain⟨ad3,rfl,hab3,t0⟩:=Strs.at_ (A:=Ac) (c:=cc) (by have:=HC.out.below (z0r HA3.out HI.out.low);exact this) hlc
    have hcr:caps.drop (za6 p.parts k)=caps[za6 p.parts k] :: caps.drop (za6 p.parts k+1):=List.drop_eq_getElem_cons hlc;have hmem:caps[za6 p.parts k]∈caps.take (za7 p):=List.mem_take_iff_getElem.2 ⟨za6 p.parts k,by omega,rfl⟩
    generalize caps[za6 p.parts k]=c at t0 hcr hmem;have HCO:=hd_ (fun X=>z8x c X (by have:=HF.out.size c (List.mem_of_mem_take hmem);unfold maxLen;omega))
    rw[HF.out.comp c hmem] at HCO;have HCR:=hd_ hcr;have hcz:c.size≤1000000:=HF.out.size c (List.mem_of_mem_take hmem);have z0:(za6 p.parts k:Int)<(nc:Int):=by have:=HNC.out;omega
    have HS12:Hid (za6 p.parts k≤12):=hd_ (by omega)
    have hnx:za6 p.parts (k+1)=za6 p.parts k+1:=by rw[HNX.out];rfl
    have HNX2:=hd_ hnx;have hsu:(z85 part).size≤1000000:=Nat.le_trans HSU.out HSZ.out;have z1:¬ 9223372036854775807<c.size+(z85 part).size:=by omega
    have q9:IntKind.i64.wrap ((za6 p.parts k:Int)+1)=((za6 p.parts k+1:Nat):Int):=by rw[IntKind.wrap_i64];have:=HS12.out;omega
    generalize hsf:z85 part=sf at HT HSS z1;clear hcr hab3 hmem hroom h3 hlc hnx hsf;go_wp2_with fail;refine (HT.out _).mono ?_;rintro e w' ⟨rfl,rfl⟩;dsimp only;go_wp2_with fail;refine (HCO.out _).mono ?_;rintro e w' ⟨rfl,rfl⟩;dsimp only;clear s0;go_wp2_with (at_builtin;refine z0k rfl rfl z8c (z0n HOW.out ((Below.refl _ _).alloc (Nat.le_refl _) _)) rfl (z0i _ [.string (c++sf)] _ 1 1 rfl (by decide) _ (by simp)) rfl (HBI.out.alloc HBI.out.size _) (HBI.out.alloc HBI.out.size _).size (by simp [Value.oneCell']) (by omega) (by unfold maxLen;omega) ?_;intro A' c' w5 hown5 hbl5)
    have HN:=hd_ (HSS.out w5 (.slice A' (k+1) c') _ c HST.out HCR.out hbl5 (by rw[List.map_append];exact hown5))
    clear hown5 hbl5;go_wp2_with fail;go_roundw
    case rel=>exact⟨k+1,done++[c++sf],_,_,by go_num,by rw[HNX2.out];first | rfl | (simp;done) | (congr 1;have:=HS12.out;simp [wrap64];omega),rfl,by have:=HLT.out;omega,HN⟩
    case measure=>have:=HLT.out;simp [intOf];omega
  ·have hke:k=p.parts.length:=by omega
   subst hke;have HFA:Hid (zbx p.parts caps=done):=hd_ (by
    have:=HI.out.is;rw[List.drop_length] at this;rw[← this];unfold zbx;simp)
   have hge:¬((p.parts.length:Int)<(p.parts.length:Int)):=by omega
   have HOW:=hd_ HI.out.own;have HLW:=hd_ HI.out.low;have HLN:=hd_ HI.out.len;have d1:wr.cell? ⟨w.heap.size,1,none⟩=some (.bool b):=(HB3.out.below HLW.out HB3.out.lt).cell 1;cases b with
   | false =>
    have HFB:Hid (zby p caps=done):=hd_ (by unfold zby;rw[HBR.out,HFA.out];simp)
    have hpos:0<p.parts.length:=by have h1:=HF.out.some;rw[HFB.out,HLN.out] at h1;exact h1
    obtain⟨gq,cq,eq⟩:=z0s HOW.out hpos;injection eq with eq1 eq2 eq3
    subst eq1 eq3;have hJ:=z98 (done.map (·.data.toList)) gq 0 c2 wr (fun j hj=>by
     rw[List.length_map] at hj;rw[Nat.zero_add];have:=(zah HOW.out (j:=j) (u:=.string done[j]) (by rw[List.getElem?_map,List.getElem?_eq_getElem hj];rfl)).1
     exact this.trans (by rw[zc1])) (by rw[List.length_map,HLN.out];exact hpos) (by rw[List.length_map,HLN.out];exact (zc2 HOW.out).1) (by rw[List.length_map,HLN.out];omega) (by have:=HF.out.join;rw[HFB.out] at this;omega)
    rw[List.length_map,HLN.out] at hJ;have HJ:=hd_ hJ;have HST:Hid (zbz p caps=baL (z8o (done.map (·.data.toList)))):=hd_ (by unfold zbz;rw[HFB.out])
    clear hJ HI;go_wp2_with fail;refine HJ.out.mono ?_;rintro e w6 ⟨rfl,hb6⟩;dsimp only;have HB6:=hd_ (z0r HA3.out (z0r HLW.out hb6));clear hb6;go_wp2_with fail;go_ret2;exact⟨by rw[HST.out];rfl,HB6.out⟩
   | true =>
    have hdl:(caps.drop (za7 p)).length=1:=by rw[List.length_drop,HF.out.len,HBR.out];simp
    obtain⟨c,hcc⟩:=List.length_eq_one_iff.1 hdl;have hlc:za7 p<caps.length:=by rw[HNC.out];have:=HLEN.out;simp at this;omega
    have e5:caps[za7 p]=c:=by have h5:=List.drop_eq_getElem_cons hlc;rw[hcc] at h5;injection h5 with h5 _;exact h5.symm
    obtain⟨ad3,rfl,hab3,t0⟩:=Strs.at_ (A:=Ac) (c:=cc) (by have:=HC.out.below (z0r HA3.out HLW.out);exact this) hlc
    rw[e5] at t0;have hcm:c∈caps:=List.mem_of_mem_drop (by rw[hcc];exact List.mem_cons_self ..)
    have HCZ:=hd_ (HF.out.size c hcm);have HCL:=hd_ (HF.out.last HBR.out c (by rw[hcc];exact List.mem_cons_self ..))
    have HFB:Hid (zby p caps=done++[c]):=hd_ (by unfold zby;rw[HBR.out,HFA.out,if_pos rfl,hcc])
    have HSP:=hd_ (z78 c wr (HE.out.below (z0r HA3.out HLW.out)) (by have:=HCZ.out;omega))
    have HSN:=hd_ (fun q (hq:q∈z1a c.data.toList)=>(z1e hq).2);have HJN:Hid (Lib.join ((done.map (·.data.toList))++z1a c.data.toList) [47]=Lib.join ((zby p caps).map (·.data.toList)) [47]):=hd_ (by rw[znq,HFB.out,List.map_append];rfl)
    have HPO:Hid (0<(z1a c.data.toList).length):=hd_ (List.length_pos_iff.2 (z1b _));have hn0:(za6 p.parts p.parts.length:Int)<(nc:Int):=by rw[za9,← HNC.out];omega
    rw[za9] at hn0 ⊢;clear hdl hcc hab3 hcm e5 hlc HI;go_wp2_with fail;refine HSP.out.mono ?_;rintro e w5 ⟨rfl,hw5⟩;dsimp only;have hb5:Below wr.heap.size wr w5:=hw5 ▸ (Below.refl _ _).alloc (Nat.le_refl _) _;have hk5:Blk w5 wr.heap.size 9 (z71 (z1a c.data.toList)):=hw5 ▸ z0l wr _ _;have HL5:=hd_ (z0r HLW.out hb5);have HK5:=hd_ hk5;have HO5:=hd_ (z0n HOW.out hb5);have HNE:Hid ((Value.slice A2 p.parts.length c2).ownBlock≠some wr.heap.size):=hd_ (fun e=>by have:=(HOW.out.lt _ e).2;omega)
    have hsl:(z1a c.data.toList).length≤1000001:=by have:=z1g c.data.toList;have h2:=HCZ.out;have:c.data.toList.length=c.size:=rfl;omega
    clear hw5 hb5 hk5 t0 d1 hn0;generalize wr.heap.size=g5 at HK5 HNE ⊢;generalize z1a c.data.toList=ps at HCL HSN HK5 HJN HPO hsl ⊢;go_wp2_with fail;go_loopw [7,65] (fun av i wr=>∃(j:Nat) (A4:Option Addr) (c4:Nat),i=.int .i64 j∧av=.slice A4 (p.parts.length+j) c4∧j≤ps.length∧Hid (Below w3.heap.size w3 wr∧Blk wr g5 9 (z71 ps)∧wr.ownsRow w3.heap.size 9 1 av (p.parts.length+j) ((done++(ps.take j).map baL).map .string)∧av.ownBlock≠some g5)) (fun _ i _=>ps.length - (intOf i).toNat)
    case atStart=>exact⟨0,_,_,rfl,rfl,Nat.zero_le _,hd_ ⟨HL5.out,HK5.out,by simpa using HO5.out,HNE.out⟩⟩
    case round =>
     obtain⟨j,A4,c4,rfl,rfl,hj,HI⟩:=hrel;by_cases hlt:j<ps.length
     ·have t1:=HI.out.2.1.strs j hlt;have HCO:=hd_ (fun X=>z8x (baL ps[j]) X (by rw[z74];have:=HSN.out _ (List.getElem_mem hlt);have:=HCZ.out;have:c.data.toList.length=c.size:=rfl;unfold maxLen;omega))
      have hcp:z0v (baL ps[j])=true:=List.all_eq_true.1 HCL.out _ (List.getElem_mem hlt);rw[hcp] at HCO;have HTK:Hid ((ps.take (j+1)).map baL=(ps.take j).map baL++[baL ps[j]]):=hd_ (by rw[List.take_succ_eq_append_getElem hlt,List.map_append];rfl)
      generalize baL ps[j]=pk at t1 HCO HTK;have HLT:=hd_ hlt;have HOW:=hd_ (z0n HI.out.2.2.1 ((Below.refl wr.heap.size wr).alloc (Nat.le_refl _) (.cells #[.string pk] 9)));have HBW:=hd_ (HI.out.1.alloc HI.out.1.size (.cells #[.string pk] 9));have HKW:=hd_ (HI.out.2.1.alloc (.cells #[.string pk] 9));have hrow:=z0i wr [.string pk] 9 1 1 rfl (by unfold maxLen;omega) wr.heap.size rfl
      clear hcp;go_wp2_with fail;refine (HCO.out _).mono ?_;rintro e w' ⟨rfl,rfl⟩;dsimp only;go_wp2_with (at_builtin;refine z0j rfl rfl zl8 HOW.out rfl hrow rfl (by simp [Value.oneCell']) (by omega) (by unfold maxLen;omega) HBW.out.size ?_;intro A' c' w6 hown hgr hob)
      have HN:Hid (Below w3.heap.size w3 w6∧Blk w6 g5 9 (z71 ps)∧w6.ownsRow w3.heap.size 9 1 (.slice A' (p.parts.length+j+1) c') (p.parts.length+j+1) ((done++(ps.take (j+1)).map baL).map .string)∧(Value.slice A' (p.parts.length+j+1) c').ownBlock≠some g5):=hd_ ⟨zno HBW.out hgr (fun k e=>(HOW.out.lt k e).1),HKW.out.grown hgr (fun e=>HI.out.2.2.2 e.symm),by rw[HTK.out,← List.append_assoc,List.map_append];exact hown,by
       rcases hob with e | e
       ·rw[e];exact HI.out.2.2.2
       ·rw[e];intro e2;injection e2 with e2;have:=HI.out.2.1.lt;simp at e2;omega⟩
      clear hown hgr hob hrow t1;go_wp2_with fail;go_roundw
      case rel=>exact⟨j+1,A',c',by go_num,by first | rfl | simp [Nat.add_assoc],by have:=HLT.out;omega,HN⟩
      case measure=>have:=HLT.out;simp [intOf];omega
     ·have hke:j=ps.length:=by omega
      subst hke;have hge2:¬((ps.length:Int)<(ps.length:Int)):=by omega
      have HO6:Hid (wr.ownsRow w3.heap.size 9 1 (.slice A4 (p.parts.length+ps.length) c4) (p.parts.length+ps.length) ((done++ps.map baL).map .string)):=hd_ (by have:=HI.out.2.2.1;rw[List.take_length] at this;exact this)
      have HB6:=hd_ HI.out.1;obtain⟨gq,cq,eq⟩:=z0s HO6.out (by have:=HPO.out;omega)
      injection eq with eq1 eq2 eq3
      subst eq1 eq3;have hll:((done++ps.map baL).map (·.data.toList)).length=p.parts.length+ps.length:=by rw[List.length_map,List.length_append,List.length_map,HLN.out]
      have hml:(done++ps.map baL).map (·.data.toList)=done.map (·.data.toList)++ps:=by rw[List.map_append,List.map_map];congr 1;simp [Function.comp_def,baL]
      have hJ:=z98 ((done++ps.map baL).map (·.data.toList)) gq 0 c4 wr (fun j hj=>by
       rw[List.length_map] at hj;rw[Nat.zero_add];have:=(zah HO6.out (j:=j) (u:=.string (done++ps.map baL)[j]) (by rw[List.getElem?_map,List.getElem?_eq_getElem hj];rfl)).1
       exact this.trans (by rw[zc1])) (by rw[hll];have:=HPO.out;omega) (by rw[hll];exact (zc2 HO6.out).1) (by rw[hll];omega) (by rw[hml,HJN.out];have:=HF.out.join;omega)
      rw[hll] at hJ;have HJ:=hd_ hJ;have HST:Hid (zbz p caps=baL (z8o ((done++ps.map baL).map (·.data.toList)))):=hd_ (by unfold zbz z8o;rw[hml,HJN.out])
      clear hJ HI hll hml;go_wp2_with fail;refine HJ.out.mono ?_;rintro e w7 ⟨rfl,hb7⟩;dsimp only;have HB7:=hd_ (z0r HA3.out (z0r HB6.out hb7));clear hb7;go_wp2_with fail;go_ret2;exact⟨by rw[HST.out];rfl,HB7.out⟩
theorem zns (p:Pat)(caps:List ByteArray)(A:Option Addr)(a:Nat)(cv:Value)(w:World)(he:Env w)(hp:zae w (.slice A p.parts.length a) p)(hc:Strs w cv caps)(hf:zc0 p caps):
  Calls prog 196 #[.agg #[.slice A p.parts.length a,.bool p.rest],cv] w fun e w'=>e=.returned (.tuple #[.string (zbz p caps),.int .i64 0])∧Below w.heap.size w w':=znr p p.rest rfl caps A a cv w he hp hc hf
structure zqe (l:List Hav)(i:Nat)(hi:i<l.length):Prop where
 ok:l[i].okB=true
 up:∀ h:0<i,z2u (l[i - 1]'(by omega)).path l[i].path<0
 loc:∀ k (hk:k<i),(l[k]'(by omega)).loc≠l[i].loc
theorem zqf {l:List Hav}(h:∀ i (hi:i<l.length),zqe l i hi):zf6 l:=by
 have val:∀ i (hi:i<l.length),z2s l[i].path=true:=fun i hi=>(zf8 (zf7 (h i hi).ok).1).1;have up:∀ d i (hj:i+d+1<l.length),z2u (l[i]'(by omega)).path l[i+d+1].path<0:=by
  intro d;induction d with
  | zero=>intro i hj;exact (h (i+1) hj).up (by omega)
  | succ d ih =>
   intro i hj;have h1:=ih i (by omega)
   have h2:=(h (i+(d+1)+1) hj).up (by omega)
   have e:i+(d+1)+1 - 1=i+d+1:=by omega
   simp only[e] at h2
   exact z5f (val i (by omega)) (val (i+d+1) (by omega)) (val _ hj) h1 h2
 have srt:z6c l:=List.pairwise_iff_getElem.2 fun i j hi hj hij=>by
  have:=up (j - i - 1) i (by omega)
  have e:i+(j - i - 1)+1=j:=by omega
  simp only[e] at this
  exact this
 refine⟨srt,fun x hx=>?_,fun x hx y hy e=>?_⟩
 ·obtain⟨i,hi,rfl⟩:=List.getElem_of_mem hx;exact (h i hi).ok
 ·obtain⟨i,hi,rfl⟩:=List.getElem_of_mem hx;obtain⟨j,hj,rfl⟩:=List.getElem_of_mem hy;rcases Nat.lt_trichotomy i j with c | c | c
  ·exact absurd e ((h j hj).loc i c)
  ·subst c;rfl
  ·exact absurd e.symm ((h i hi).loc j c)
theorem zqg {l:List Hav}(h:zf6 l)(i:Nat)(hi:i<l.length):zqe l i hi:=by
 refine⟨h.ok _ (List.getElem_mem hi),fun h0=>List.pairwise_iff_getElem.1 h.srt (i - 1) i (by omega) hi (by omega),fun k hk e=>?_⟩
 have:=h.loc _ (List.getElem_mem (by omega)) _ (List.getElem_mem hi) e
 exact z5z (List.pairwise_iff_getElem.1 h.srt k i (by omega) hi hk) this
theorem zqh {x:Syn}{l:ByteArray}(h:zjo x l=true):z3q x.path=true∧zq2 x:=by
 unfold zjo at h;simp only[Bool.and_eq_true,Bool.not_eq_true',Bool.or_eq_true,beq_iff_eq] at h
 obtain⟨⟨⟨⟨h1,h2⟩,h3⟩,h4⟩,h5⟩:=h;refine⟨h1,?_⟩;rcases h5 with h5 | h5
 ·exact .inl h5
 ·refine .inr ⟨h5,fun ⟨e1,e2⟩=>?_⟩;rw[decide_eq_true e1,decide_eq_true e2] at h3;cases h3
