/- A part. -/
import Derived.Test.YtijghobkkdbhnaaGreatDoorMgw20
import Derived.Test.YtijghobkkdbhnaaGreatDoorMgw21
import Derived.Test.YtijghobkkdbhnaaGreatDoorMgw19
set_option linter.unusedVariables false
set_option linter.unusedSimpArgs false
set_option maxHeartbeats 8000000
set_option maxRecDepth 100000
namespace Go.Proofs.YtijghobkkdbhnaaGreatDoor
open Go.Proofs.Tryz
open Go.RowKit
open Go.Sort (grow)
theorem z4z.tail2 {w:World}{ad:Addr}{c n:Nat}{x:Syn}{r:List Syn}(h:z4z w (.slice (some ad) n c) (x :: r)):
  z4z w (.slice (if c=1 then some ad else some ⟨ad.block,ad.off+5,none⟩) r.length (c - 1)) r:=by
 obtain⟨A,c',e,h1,h2,h3,h4,h5⟩:=id h;injection e with e1 e2 e3
 subst e1 e3;rw[List.length_cons] at h1 h5;refine⟨_,_,rfl,by omega,by omega,by
  rw[List.flatMap_cons,List.length_append,List.length_cons] at h3;have h9:x.cells.length=5:=rfl;omega,?_,fun hr=>?_⟩
 ·intro hn;split at hn <;> cases hn
 obtain⟨ad',e',hb,hc⟩:=h5 (by omega)
 injection e' with e'
 subst e';rw[if_neg (by omega)]
 refine⟨_,rfl,hb,fun j u hj=>?_⟩;have:=hc (j+5) u (by
  rw[List.flatMap_cons,List.getElem?_append_right (by simp [Syn.cells])]
  simpa [Syn.cells] using hj)
 unfold Addr.add at this ⊢
 by_cases h0:j=0
 ·subst h0;simpa using this
 ·simpa [Nat.add_assoc,Nat.add_comm 5 j,h0] using this
def zj5 (h:Hav)(hs:List Hav)(ps:List Syn):List Hav:=z4u h.path ps++z4w h (z4v h.path ps)++z4y hs (z4x h (z4v h.path ps))
theorem zj6 {h:Hav}{hs:List Hav}{x:Syn}{r:List Syn}(hc:z2u x.path h.path<0):zj5 h hs (x :: r)=z4t x++zj5 h hs r:=by
 unfold zj5;rw[z4u,z4v,if_pos hc,if_pos hc,List.append_assoc,List.append_assoc,List.append_assoc]
theorem zj7 {h:Hav}{hs:List Hav}:zj5 h hs []=h :: z4y hs []:=rfl
theorem zj8 {h:Hav}{hs:List Hav}{x:Syn}{r:List Syn}(hc:¬ z2u x.path h.path<0)(hp:x.path=h.path)(hk:z3o x.kind=true):zj5 h hs (x :: r)=h :: z4y hs r:=by
 unfold zj5;rw[z4u,z4v,if_neg hc,if_neg hc,z4w,z4x,if_pos hp,if_pos hp,if_pos hk];rfl
theorem resM_go {h:Hav}{hs:List Hav}{x:Syn}{r:List Syn}(hc:¬ z2u x.path h.path<0)(hp:x.path=h.path)(hk:z3o x.kind=false):zj5 h hs (x :: r)=z4s x++z4y hs r:=by
 unfold zj5;rw[z4u,z4v,if_neg hc,if_neg hc,z4w,z4x,if_pos hp,if_pos hp,hk];rfl
theorem zj9 {h:Hav}{hs:List Hav}{x:Syn}{r:List Syn}(hc:¬ z2u x.path h.path<0)(hp:¬ x.path=h.path):zj5 h hs (x :: r)=h :: z4y hs (x :: r):=by
 unfold zj5;rw[z4u,z4v,if_neg hc,if_neg hc,z4w,z4x,if_neg hp,if_neg hp];rfl
theorem zja (p:ByteArray)(l:List Syn):(z4u p l).length+(z4v p l).length≤l.length:=by
 induction l with
 | nil=>simp [z4u,z4v]
 | cons x r ih =>
  rw[z4u,z4v];split
  ·have:=zj2 x;rw[List.length_append,List.length_cons];omega
  ·simp
theorem zjb (h:Hav)(l:List Syn):(z4w h l).length+(z4x h l).length≤l.length+1:=by
 cases l with
 | nil=>simp [z4w,z4x]
 | cons x r =>
  rw[z4w,z4x];split
  ·have:=zj1 x;split <;> simp <;> omega
  ·simp;omega
theorem zjc:∀(hs:List Hav) (ps:List Syn),(z4y hs ps).length≤hs.length+ps.length
 | [],ps=>by have:=zj3 ps;rw[z4y];simpa using this
 | h :: hs,ps=>by
  have h1:=zja h.path ps;have h2:=zjb h (z4v h.path ps);have h3:=zjc hs (z4x h (z4v h.path ps));rw[z4y,List.length_append,List.length_append,List.length_cons];omega
theorem zjd {O T L:List Hav}{m:Nat}(h:O++T=L)(hl:L.length≤m)(hm:m+1≤1000000):(O.length+1) * 40≤140737488355328:=by
 have:=congrArg List.length h;rw[List.length_append] at this;exact room40 (by omega)
def zji (w:World)(B:Nat)(l:List ByteArray):Prop:=z2f Value.string z4i w B (z4h l)
theorem zjj (l:List ByteArray)(v:Value)(w:World)(hl:Strs w v l)(hn:l.length≤1000000):
  Calls prog 44 #[v] w fun e w'=>e=.returned (.map (some w.heap.size))∧zji w' w.heap.size l∧Below w.heap.size w w':=by
 obtain⟨A,c,rfl,-⟩:=id hl;have hmk:=fun X=>z2e (P:=prog) 108 9 136 .i64 (l.length:Int) underlying108 X;have HL:=hd_ hl;have HM0:Hid (zji (w.alloc (.map #[] 0)) w.heap.size []∧Below w.heap.size w (w.alloc (.map #[] 0))):=hd_ ⟨z2f.new Value.string z4i w,(Below.refl _ _).alloc (Nat.le_refl _) _⟩;clear hl;go_enter func44,ntmps44;go_upto_region 2 with fail;generalize w.alloc (.map #[] 0)=W1 at HM0 ⊢;clear hmk;go_wp2_with fail;go_loopw [11] (fun i wr=>∃ k:Nat,i=.int .i64 k∧k≤l.length∧Hid (zji wr w.heap.size (l.take k)∧Below w.heap.size w wr)) (fun i _=>l.length - (intOf i).toNat)
 case atStart=>exact⟨0,rfl,Nat.zero_le _,HM0⟩
 case round =>
  obtain⟨k,rfl,hk,HI⟩:=hrel;by_cases hlt:k<l.length
  ·obtain⟨ad,rfl,hab,s0⟩:=Strs.at_ (HL.out.below HI.out.2) hlt;have HT:Hid (l.take (k+1)=l.take k++[l[k]]):=hd_ (List.take_succ_eq_append_getElem hlt);generalize l[k]=p at s0 HT;have hX:Below wr.heap.size wr wr:=Below.refl _ _;obtain⟨w3,hup,hM3,hg3,-⟩:=z2f.update (w:=wr) HI.out.1 (z2d underlying9) underlying108 p ();have hup':(Instr.mapUpdate 108 (.map (some w.heap.size)) (.string p) (.agg #[])).run prog wr=.ok () w3:=hup;have HN:Hid (zji w3 w.heap.size (l.take (k+1))∧Below w.heap.size w w3):=hd_ ⟨by unfold zji;rw[HT.out,zbf];exact hM3,HI.out.2.grown hg3 HI.out.2.size (fun k e=>by injection e with e;omega)⟩
   have HLT:=hd_ hlt;clear hab hup hM3 hg3 hX;go_wp2_with fail;go_roundw
   case rel=>exact⟨k+1,by go_num,by omega,HN⟩
   case measure=>simp [intOf];omega
  ·have hke:k=l.length:=by omega
   subst hke;rw[List.take_length] at HI;have hge:¬((l.length:Int)<(l.length:Int)):=by omega
   go_wp2_with fail;go_ret;exact⟨rfl,HI.out⟩
theorem zjk (l:List ByteArray)(B:Nat)(p:ByteArray)(w:World)(h:zji w B l):
  Calls prog 45 #[.map (some B),.string p] w fun e w'=>e=.returned (.bool (decide (p∈l)))∧Below w.heap.size w w':=by
 have hlk:=z2f.lookup (w:=w) h (z2d underlying9) underlying108 (z:=.agg #[]) (by rfl) p true
 have hA:Below w.heap.size w (w.alloc (.cells #[] 136)):=(Below.refl _ _).alloc (Nat.le_refl _) _;have HA:=hd_ hA;clear h hA;by_cases hin:p∈l
 all_goals
  have hv:z2h z4i (.agg #[]) true (z4h l p)=.tuple #[.agg #[],.bool (decide (p∈l))]:=by unfold z4h;first | (rw[if_pos hin,decide_eq_true hin];rfl) | (rw[if_neg hin,decide_eq_false hin];rfl)
  rw[hv] at hlk;generalize decide (p∈l)=b at hlk ⊢;clear hin hv;go_enter func45,ntmps45;go_wp2_with fail;go_ret;exact⟨rfl,HA.out⟩
section
variable {u0 u1 u2 u3 u4 u5 u6 u7 u8 u9 gz gA gC gD gE gF gG gH gI gJ gK gL gM gN gO gP gQ gR gT gV gW gX gY gZ i6 i7 i8 ia ib ic ie ig ii ij ik il im io ip iq ir iu iv iw ix iy iz iA iB iC iD iE iF iG iH iI iJ iK iL iM iN iO iP iQ iR iS iT iU iV iW iX iY iZ j0 j1 j2 j5 j6 j7 j8 j9 jb jd jf jg jh ji jj jk jl bB bD bE bF bG bH bI bJ bK bL bM bN bO bP bQ bT bU bV bW bX bY bZ cj ck cn cx cy : Value}
theorem bkR23 (ops:Array Oper)(hops:Tryz.f47.body.bind (zcn 23)=some ops)(Q:Exit→Act→World→Prop)(V1:World)(g n c i g13:Nat)(x:Syn)(hp:ByteArray)
  (hx:z50 V1 ⟨g,i * 5,none⟩ x) (hh:V1.cell? ⟨g13,0,none⟩=some (.string hp)) (hi:i<n)
  (hQ:∀(ga gb gf gg gh gi gj gm gn gt gu gx gy aa:Value) (w':World),Below V1.heap.size V1 w'→Q .normal ⟨#[u0,.slice (some ⟨g,0,none⟩) n c,u2,u3,u4,u5,u6,u7,u8,u9,gz,gA,gC,.pointer (some ⟨g13,0,none⟩),gE,.int .i64 i,gG,gH,gI,gJ,gK,gL,gM,gN,gO,gP,gQ,gR,gT,gV,gW,gX,gY,gZ,i6,i7,i8,ia,ib,ic,ie,ig,ii,ij,ik,il,im,io,ip,iq,ir,iu,iv,iw,ix,iy,iz,iA,iB,iC,iD,iE,iF,iG,iH,iI,iJ,iK,iL,iM,iN,iO,iP,iQ,iR,iS,iT,iU,iV,iW,iX,iY,iZ,j0,j1,j2,j5,ga,gb,gf,gg,gh,gi,gj,gm,gn,gt,gu,gx,gy,aa,.bool (decide (x.path=hp) || z3o x.kind),bE,bF,bG,bH,bI,bJ,bK,bL,bM,bN,bO,bP,bQ,bT,bU,bV,bW,bX,bY,bZ,cj,ck,cn,cx,cy],[]⟩ w'):
  (Code.region 23 ops true).wp prog Q ⟨#[u0,.slice (some ⟨g,0,none⟩) n c,u2,u3,u4,u5,u6,u7,u8,u9,gz,gA,gC,.pointer (some ⟨g13,0,none⟩),gE,.int .i64 i,gG,gH,gI,gJ,gK,gL,gM,gN,gO,gP,gQ,gR,gT,gV,gW,gX,gY,gZ,i6,i7,i8,ia,ib,ic,ie,ig,ii,ij,ik,il,im,io,ip,iq,ir,iu,iv,iw,ix,iy,iz,iA,iB,iC,iD,iE,iF,iG,iH,iI,iJ,iK,iL,iM,iN,iO,iP,iQ,iR,iS,iT,iU,iV,iW,iX,iY,iZ,j0,j1,j2,j5,j6,j7,j8,j9,jb,jd,jf,jg,jh,ji,jj,jk,jl,bB,bD,bE,bF,bG,bH,bI,bJ,bK,bL,bM,bN,bO,bP,bQ,bT,bU,bV,bW,bX,bY,bZ,cj,ck,cn,cx,cy],[]⟩ V1:=by
 simp only[Tryz.f47,Option.bind_some,zcn] at hops
 simp at hops
 subst hops;have HQ:=hd_ hQ;have HST:=hd_ (fun X=>z3u x X);have cC:∀ d os,Calls prog 90 #[.agg #[.int .i64 x.kind,.string x.path,.int .i64 x.num,.string x.frm,.string x.dst]] (grow (redrawn V1 d) os) fun e w''=>e=.returned (.bool (z3o x.kind))∧∃ p:Regrown,w''=grow (redrawn V1 p.d) p.os:=fun d os=>Calls.regrown_of (HST.out _);obtain⟨s0,s1,s2,s3,s4⟩:=hx;have e0:=cell_regrown s0;have e1:=cell_regrown s1;have e2:=cell_regrown s2;have e3:=cell_regrown s3;have e4:=cell_regrown s4;have b0:=cell_regrown hh;clear s0 s1 s2 s3 s4 hh hQ;generalize z3o x.kind=b at cC HQ;by_cases h1:x.path=hp
 ·have q1:(x.path.toList == hp.toList)=true:=by rw[z3x,decide_eq_true h1]
  rw[decide_eq_true h1,Bool.true_or] at HQ;clear h1;refine wp_region_quiet_below (by kernel_rfl) (by kernel_rfl) ?_
  repeat (first | go_big_quiet_step (exact cC _ _) | quiet_step (exact cC _ _))
  refine wpQuiet_nil ?_;intro _ hw9;obtain⟨⟨dq,osq⟩,hw9⟩:=hw9;subst hw9;exact HQ.out _ _ _ _ _ _ _ _ _ _ _ _ _ _ _ (below_regrown V1 dq osq)
 ·have q1:(x.path.toList == hp.toList)=false:=by rw[z3x,decide_eq_false h1]
  rw[decide_eq_false h1,Bool.false_or] at HQ;clear h1;refine wp_region_quiet_below (by kernel_rfl) (by kernel_rfl) ?_
  repeat (first | go_big_quiet_step (exact cC _ _) | quiet_step (exact cC _ _))
  refine wpQuiet_nil ?_;intro _ hw9;obtain⟨⟨dq,osq⟩,hw9⟩:=hw9;subst hw9;exact HQ.out _ _ _ _ _ _ _ _ _ _ _ _ _ _ _ (below_regrown V1 dq osq)
structure Bk3 (X wr:World)(B B2:Nat)(Ap:Option Addr)(c bC:Nat)(pl:List Syn)(b:ByteArray→Bool)(QH:List Hav)(qv:Value):Prop where
 own:zjf wr B (.slice Ap pl.length c) (zel b pl)
 com:zk8 wr X.heap.size B2 bC (zk9 pl pl.length)
 low:Below B X wr
 que:zjl wr B2 96 3 qv QH.length (QH.flatMap Hav.cells)
 b2:B2≤wr.heap.size
theorem markL_len (b:ByteArray→Bool)(pl:List Syn):(zel b pl).length=pl.length:=List.length_map _
section
variable {X wr wx : World} {B B2 g c bC : Nat} {Ap : Option Addr} {pl : List Syn} {b : ByteArray → Bool} {QH : List Hav} {qv : Value}
theorem Bk3.under (h:Bk3 X wr B B2 Ap c bC pl b QH qv)(hb:Below wr.heap.size wr wx)(hB:B≤B2):Bk3 X wx B B2 Ap c bC pl b QH qv:=
 ⟨z0n h.own hb,h.com.keep fun x hx _=>hb.block x (Nat.lt_of_lt_of_le hx h.b2),h.low.trans (hb.mono (Nat.le_trans hB h.b2)),h.que.below hb,Nat.le_trans h.b2 hb.size⟩
theorem Bk3.pop {x:Hav}{ad:Addr}{cq:Nat}(h:Bk3 X wr B B2 Ap c bC pl b (x :: QH) (.slice (some ad) (QH.length+1) cq)):Bk3 X wr B B2 Ap c bC pl b QH (.slice (if cq=1 then some ad else some ⟨ad.block,ad.off+3,none⟩) QH.length (cq - 1)):=by
 have hq:zjl wr B2 96 3 (.slice (some ad) (QH.length+1) cq) (QH.length+1) ((x :: QH).flatMap Hav.cells):=h.que;have ht:=hq.tail;have hd:((x :: QH).flatMap Hav.cells).drop 3=QH.flatMap Hav.cells:=by rw[List.flatMap_cons];rfl
 rw[hd] at ht;exact⟨h.own,h.com,h.low,ht,h.b2⟩
theorem Bk3.mark_ (h:Bk3 X wr B B2 (some ⟨g,0,none⟩) c bC pl b QH qv)(hs:z6d pl){k:Nat}(hk:k<pl.length)(hg:g<X.heap.size)(hB:B≤g)(hX:X.heap.size≤B2)(hC:X.heap.size≤bC):
  Bk3 X (wr.setCell ⟨g,k * 5,none⟩ (.int .i64 5)) B B2 (some ⟨g,0,none⟩) c bC pl (setB b pl[k].path) QH qv:=by
 have hk2:k<(zel b pl).length:=by rw[markL_len];exact hk
 have ho:=zjf.put h.own hk2 5;rw[zkg hs b hk hk2] at ho;refine⟨ho,h.com.keep fun x _ hx=>Below.heap_setCell wr ⟨g,k * 5,none⟩ _ x ?_,h.low.setCell hB _,h.que.setCell (p:=⟨g,k * 5,none⟩) (fun e=>by have h2:=(h.que.lt g e).1;omega) _,by simpa [World.setCell] using h.b2⟩
 show x≠g
 rcases hx with hx | hx
 ·omega
 ·omega
theorem Bk3.push {y:Hav}{A':Option Addr}{c':Nat}(h:Bk3 X wr B B2 Ap c bC pl b QH qv)(hB:B≤B2)(hg:∀ x,(Value.slice Ap pl.length c).ownBlock=some x→x<B2)(hq:zjl wx B2 96 3 (.slice A' (QH.length+1) c') (QH.length+1) (QH.flatMap Hav.cells++y.cells))(hs:zkk wr wx qv):
  Bk3 X wx B B2 Ap c bC pl b (QH++[y]) (.slice A' (QH.length+1) c'):=by
 have hlt:=h.que.lt;refine⟨?_,h.com.keep fun x hx _=>hs.block (Nat.lt_of_lt_of_le hx h.b2) (fun e=>by have:=(hlt x e).1;omega),hs.low h.low (Nat.le_trans hB h.b2) (fun k e=>Nat.le_trans hB (hlt k e).1),?_,Nat.le_trans h.b2 hs.size⟩
 ·refine⟨h.own.1,?_⟩;rcases h.own.2 with e | ⟨g',cap,cur,e1,h1,h2,h3⟩
  ·exact .inl e
  ·refine .inr ⟨g',cap,cur,e1,h1,(hs.block (Array.getElem?_eq_some_iff.1 h2).1 (fun e=>?_)).trans h2,h3⟩;have h5:=(hlt g' e).1;have h6:=hg g' (by rw[e1];rfl)
   omega
 ·rw[List.length_append,List.flatMap_append];have e:[y].flatMap Hav.cells=y.cells:=by simp
  rw[e];exact hq
end
end
def SbV:Value→Bool
 | .string _=>true
 | .bool _=>true
 | _=>false
def zo9 (w:World)(g:Nat):Prop:=∀(off:Nat) u,w.cell? ⟨g,off,none⟩=some u→SbV u=false
theorem zoa {w:World}{ad:Addr}{u:Value}(h:w.cell? ad=some u):w.cell? ⟨ad.block,ad.off,none⟩=some u:=by
 obtain⟨b,o,s⟩:=ad;cases s with
 | none=>exact h
 | some k =>
  unfold World.cell? at h
  split at h
  ·simp at h
  ·cases h
theorem Row.keptN {S:List Nat}{w w':World}{size n:Nat}{v:Value}{xs:List Value}(h:Row w size v n xs)(hK:z6y S w w')(hS:∀ g∈S,zo9 w g)(hx:0<n→∃(j:Nat) (u:Value),xs[j]? = some u∧SbV u=true):Row w' size v n xs:=by
 obtain⟨A,c,rfl,hc,hm,hl,h0,hr⟩:=id h;rcases Nat.eq_zero_or_pos n with hn | hn
 ·exact⟨A,c,rfl,hc,hm,hl,h0,fun hp=>by omega⟩
 ·obtain⟨ad,rfl,hb,hcell⟩:=hr hn;refine Row.kept h hK fun hmem=>?_;obtain⟨j,u,hj,hu⟩:=hx hn;have h1:=zoa (hcell j u hj);rw[z00] at h1;rw[hS _ hmem _ _ h1] at hu;cases hu
theorem Strs.keptN {S:List Nat}{w w':World}{v:Value}{l:List ByteArray}(h:Strs w v l)(hK:z6y S w w')(hS:∀ g∈S,zo9 w g):Strs w' v l:=
 Row.keptN h hK hS fun hn=>⟨0,.string (l[0]'hn),by rw[List.getElem?_map,List.getElem?_eq_getElem hn];rfl,rfl⟩
theorem zae.keptN {S:List Nat}{w w':World}{v:Value}{p:Pat}(h:zae w v p)(hK:z6y S w w')(hS:∀ g∈S,zo9 w g):zae w' v p:=⟨h.1.keptN hK hS,h.2⟩
theorem zd7.keptN {S:List Nat}{w w':World}{v:Value}{hs:List zd6}(h:zd7 w v hs)(hK:z6y S w w')(hS:∀ g∈S,zo9 w g):zd7 w' v hs:=
 ⟨Row.keptN h.1 hK hS fun hn=>⟨1,.bool (hs[0]'hn).1.rest,by
  cases hs with
  | nil=>simp at hn
  | cons q hs=>rfl,rfl⟩,fun q hq=>(h.2 q hq).keptN hK hS⟩
theorem zdn.keptN {S:List Nat}{w w':World}{v:Value}{es:List zdd}(h:zdn w v es)(hK:z6y S w w')(hS:∀ g∈S,zo9 w g):zdn w' v es:=
 ⟨Row.keptN h.1 hK hS fun hn=>⟨1,.bool (es[0]'hn).l.1.rest,by
  cases es with
  | nil=>simp at hn
  | cons q hs=>rfl,rfl⟩,fun x hx=>⟨(h.2 x hx).l.keptN hK hS,(h.2 x hx).r.keptN hK hS,(h.2 x hx).h.keptN hK hS,(h.2 x hx).n⟩⟩
theorem z45.keptN {S:List Nat}{w w':World}{v:Value}{D:List Rev}(h:z45 w v D)(hK:z6y S w w')(hS:∀ g∈S,zo9 w g):z45 w' v D:=
 Row.keptN h hK hS fun hn=>⟨0,.string (D[0]'hn).path,by
  cases D with
  | nil=>simp at hn
  | cons q hs=>rfl,rfl⟩
theorem z4b.keptN {S:List Nat}{w w':World}{v:Value}{l:List Hav}(h:z4b w v l)(hK:z6y S w w')(hS:∀ g∈S,zo9 w g):z4b w' v l:=
 Row.keptN h hK hS fun hn=>⟨0,.string (l[0]'hn).path,by
  cases l with
  | nil=>simp at hn
  | cons q hs=>rfl,rfl⟩
theorem zo9.blk {w:World}{g:Nat}{e:TypeId}{cs:List Value}(h:Blk w g e cs)(hc:∀ u∈cs,SbV u=false):zo9 w g:=fun off u hu=>by
 rw[h.cell off] at hu;exact hc u (List.mem_of_getElem? hu)
theorem zgm.nosb {w:World}{U g m:Nat}(h:zgm w U g m):∀ x∈[g],zo9 w x:=by
 obtain⟨l,A,c,a,h1,-⟩:=h;intro x hx;rw[List.mem_singleton] at hx;subst hx;exact zo9.blk h1 (by simp [SbV])
theorem zp7 {s:ByteArray}{ps:List (List UInt8)}(h:z2q s.data.toList 2=some ps):z2s s=true:=by unfold z2s z2r;rw[h];rfl
theorem zp8 {w:World}{a:Addr}{x y:Hav}(h:x=y)(hA:z4c w a x):z4c w a y:=by subst h;exact hA
theorem zp9 (s:ByteArray)(w:World)(he:Env w)(hs:s.size≤2000000):
  Calls prog 151 #[.string s] w fun e w'=>e=.returned (.bool (z3q s))∧Below w.heap.size w w':=by
 cases h:z2q s.data.toList 2 with
 | none =>
  have HP:Hid (z3q s=false):=hd_ (by unfold z3q;rw[zht h,Bool.and_false])
  have H:=hd_ (z97 s w he hs h);clear he hs h;go_enter func151,ntmps151;go_wp2_with fail;refine H.out.mono ?_;rintro e w' ⟨rfl,hb⟩;go_wp2_with fail;go_ret;exact⟨z0w HP.out.symm,hb⟩
 | some ps =>
  have HP:Hid (z3q s=decide (s.size≤200)):=hd_ (by unfold z3q;rw[zp7 h,Bool.and_true])
  have H:=hd_ (z96 s ps w he hs h);have hA:Below w.heap.size w (w.alloc (.cells (z71 ps).toArray 9)):=(Below.refl _ _).alloc (Nat.le_refl _) _;have HA:=hd_ hA;have q:decide ((s.size:Int)≤200)=decide (s.size≤200):=decide_eq_decide.2 (by omega)
  clear he hs h hA;generalize w.alloc (.cells (z71 ps).toArray 9)=W at H HA ⊢;go_enter func151,ntmps151;go_wp2_with fail;refine H.out.mono ?_;rintro e w' ⟨rfl,rfl⟩;go_wp2_with fail;go_ret;exact⟨z0w HP.out.symm,HA.out⟩
theorem zpa (h:Hav)(w:World)(he:Env w)(h1:h.path.size≤2000000)(h2:h.loc.size≤2000000):
  Calls prog 92 #[.agg #[.string h.path,.int .i64 h.num,.string h.loc]] w fun e w'=>e=.returned (.bool h.okB)∧Below w.heap.size w w':=by
 have hA:Below w.heap.size w (w.alloc (.cells #[.string h.path,.int .i64 h.num,.string h.loc] 96)):=(Below.refl _ _).alloc (Nat.le_refl _) _;have HB:=hd_ (z0l w [.string h.path,.int .i64 h.num,.string h.loc] 96);have HPC:=hd_ (fun X (hX:Below w.heap.size w X)=>zp9 h.path X (he.below hX) h1);have HLC:=hd_ (fun X (hX:Below w.heap.size w X)=>zp9 h.loc X (he.below hX) h2);have HOK:Hid (h.okB=(z3q h.path && z3q h.loc && decide (1≤h.num))):=hd_ rfl;have HA:=hd_ hA;have HP1:=hd_ (HPC.out _ hA);obtain⟨z0,z1,z2⟩:=z3s (x:=h) HB.out;generalize z3q h.path=b1 at HP1 HPC HOK;generalize z3q h.loc=b2 at HLC HOK;clear he h1 h2 hA HPC;go_enter func92,ntmps92;go_wp2_with fail;refine HP1.out.mono ?_;rintro e w1 ⟨rfl,hb1⟩;dsimp only;have HB1:=hd_ (z0r HA.out hb1);have HX1:=hd_ (HB.out.below hb1 HB.out.lt);clear hb1 z0 z1 z2 HB;obtain⟨z0,z1,z2⟩:=z3s (x:=h) HX1.out;cases b1 with
 | false =>
  go_wp2_with fail;go_ret;exact⟨z0w (by rw[HOK.out];rfl),HB1.out⟩
 | true =>
  have HP2:=hd_ (HLC.out _ HB1.out);go_wp2_with fail;refine HP2.out.mono ?_;rintro e w2 ⟨rfl,hb2⟩;dsimp only;have HB2:=hd_ (z0r HB1.out hb2);have HX2:=hd_ (HX1.out.below hb2 HX1.out.lt);clear hb2 z0 z1 z2 HX1;obtain⟨z0,z1,z2⟩:=z3s (x:=h) HX2.out;cases b2 with
  | false =>
   go_wp2_with fail;go_ret;exact⟨z0w (by rw[HOK.out];rfl),HB2.out⟩
  | true =>
   go_wp2_with fail;go_ret;exact⟨z0w (by rw[HOK.out];rfl),HB2.out⟩
theorem zpb (l:List ByteArray)(v:Value)(s:ByteArray)(w:World)(hL:Strs w v l)(hl:l.length≤1000000):
  Calls prog 96 #[v,.string s] w fun e w'=>e=.returned (.bool (decide (s∈l)))∧Below w.heap.size w w':=by
 obtain⟨A,c,rfl,-⟩:=id hL;have HL:=hd_ hL;clear hL;go_enter func96,ntmps96;go_wp2_with fail;go_loopw [5] (fun i wr=>∃ k:Nat,i=.int .i64 k∧k≤l.length∧Hid ((∀ j (hj:j<l.length),j<k→l[j]≠s)∧Below w.heap.size w wr)) (fun i _=>l.length - (intOf i).toNat)
 case atStart=>exact⟨0,rfl,Nat.zero_le _,hd_ ⟨fun j _ h=>by omega,Below.refl _ _⟩⟩
 case round =>
  obtain⟨k,rfl,hk,HI⟩:=hrel;by_cases hlt:k<l.length
  ·obtain⟨ad,rfl,hab,s0⟩:=Strs.at_ (HL.out.below HI.out.2) hlt;have HY:Hid (l[k]=s→s∈l):=hd_ fun e=>by rw[← e];exact List.getElem_mem hlt
   have HN:Hid (l[k]≠s→∀ j (hj:j<l.length),j<k+1→l[j]≠s):=hd_ fun h j hj hjk=>by
    by_cases e:j=k
    ·subst e;exact h
    ·exact HI.out.1 j hj (by omega)
   generalize l[k]=q at s0 HY HN;have HB:=hd_ HI.out.2;have HLT:=hd_ hlt;by_cases h1:q=s
   ·have q1:(q.toList == s.toList)=true:=by rw[z3x,decide_eq_true h1]
    have HR:=hd_ (HY.out h1);clear h1;go_wp2_with fail;go_ret;exact⟨z0w (decide_eq_true HR.out).symm,HB.out⟩
   ·have q1:(q.toList == s.toList)=false:=by rw[z3x,decide_eq_false h1]
    have HR:=hd_ (HN.out h1);clear h1;go_wp2_with fail;go_roundw
    case rel=>exact⟨k+1,by go_num,by have:=HLT.out;omega,hd_ ⟨HR.out,HB.out⟩⟩
    case measure=>have:=HLT.out;simp [intOf];omega
  ·have hke:k=l.length:=by omega
   have HR:Hid (s∉l):=hd_ fun h=>by
    obtain⟨j,hj,e⟩:=List.getElem_of_mem h;exact HI.out.1 j hj (by omega) e
   have HB:=hd_ HI.out.2;subst hke;clear HI;go_wp2_with fail;go_ret;exact⟨z0w (decide_eq_false HR.out).symm,HB.out⟩
theorem zpc (f d:ByteArray)(w:World):Calls prog 95 #[.string f,.string d] w fun e w'=>e=.returned (.int .i64 (z3p f d))∧w=w':=by
 by_cases h1:f=z2l
 ·have HK:Hid (z3p f d=1):=hd_ (if_pos h1);obtain⟨s1,s2⟩:=z3v h1;clear h1;go_enter func95,ntmps95;go_wp2_with fail;go_ret;exact⟨by rw[HK.out];rfl,rfl⟩
 ·obtain⟨s1,s2⟩:=z3w h1;by_cases h2:d=z2l
  ·have HK:Hid (z3p f d=4):=hd_ (by unfold z3p;rw[if_neg h1,if_pos h2])
   obtain⟨t1,t2⟩:=z3v h2;clear h1 h2;go_enter func95,ntmps95;go_wp2_with fail;go_ret;exact⟨by rw[HK.out];rfl,rfl⟩
  ·obtain⟨t1,t2⟩:=z3w h2;have q:=z3x f d;by_cases h3:f=d
   ·have HK:Hid (z3p f d=2):=hd_ (by unfold z3p;rw[if_neg h1,if_neg h2,if_pos h3])
    rw[decide_eq_true h3] at q;clear h1 h2 h3;go_enter func95,ntmps95;go_wp2_with fail;go_ret;exact⟨by rw[HK.out];rfl,rfl⟩
   ·have HK:Hid (z3p f d=3):=hd_ (by unfold z3p;rw[if_neg h1,if_neg h2,if_neg h3])
    rw[decide_eq_false h3] at q;clear h1 h2 h3;go_enter func95,ntmps95;go_wp2_with fail;go_ret;exact⟨by rw[HK.out];rfl,rfl⟩
section
variable {u0 u1 u2 u3 u4 u5 u6 u7 u8 u9 gz gA gC gD gE gF gG gH gI gJ gK gL gM gN gO gP gQ gR gT gV gW gX gY gZ i6 i7 i8 ia ib ic ie ig ii ij ik il im io ip iq ir iu iv iw ix iy iz iA iB iC iD iE iF iG iH iI iJ iK iL iM iN iO iP iQ iR iS iT iU iV iW iX iY iZ j0 j1 j2 j5 j6 j7 j8 j9 jb jd jf jg jh ji jj jk jl bB bD bE bF bG bH bI bJ bK bL bM bN bO bP bQ bT bU bV bW bX bY bZ cj ck cn cx cy cz cA cB cD cF cG cH cI cJ cK cM cN cO cP cQ cS cT cU cW cZ da dc dd de df dg dh di dj dm du dw dx dy : Value}
theorem stR15 (ops:Array Oper)(hops:Tryz.f50.body.bind (zcn 15)=some ops)(Q:Exit→Act→World→Prop)(V:World)(ad:Addr)(n c k g15 g17:Nat)(a wz hz:Hav)
  (hH:z4c V (ad.add (k * 3)) a) (hk:(k:Int)<(n:Int)) (h15:Blk V g15 96 [.string wz.path,.int .i64 wz.num,.string wz.loc]) (h17:Blk V g17 96 [.string hz.path,.int .i64 hz.num,.string hz.loc])
  (hQ:∀(fV fW fX fY fZ ga gb gf gg gh gi gj gm gn gt gu gx:Value) (g:Nat) (w':World),Blk w' g 50 [.int .i64 (z3p hz.loc wz.loc),.string a.path,.int .i64 wz.num,.string hz.loc,.string wz.loc]→V.heap.size≤g→Below V.heap.size V w'→Q .normal ⟨#[u0,u1,u2,u3,u4,u5,u6,u7,u8,u9,.slice (some ad) n c,gA,gC,gD,.int .i64 k,.pointer (some ⟨g15,0,none⟩),gG,.pointer (some ⟨g17,0,none⟩),gI,.pointer (some ⟨g,0,none⟩),gK,gL,gM,gN,gO,gP,gQ,gR,gT,gV,gW,gX,gY,gZ,i6,i7,i8,ia,ib,ic,ie,ig,ii,ij,ik,il,im,io,ip,iq,ir,iu,iv,iw,ix,iy,iz,iA,iB,iC,iD,iE,iF,iG,iH,iI,iJ,iK,iL,iM,iN,iO,iP,iQ,iR,iS,iT,iU,iV,iW,iX,iY,fV,fW,fX,fY,fZ,ga,gb,gf,gg,gh,gi,gj,gm,gn,gt,gu,gx,jl,bB,bD,bE,bF,bG,bH,bI,bJ,bK,bL,bM,bN,bO,bP,bQ,bT,bU,bV,bW,bX,bY,bZ,cj,ck,cn,cx,cy,cz,cA,cB,cD,cF,cG,cH,cI,cJ,cK,cM,cN,cO,cP,cQ,cS,cT,cU,cW,cZ,da,dc,dd,de,df,dg,dh,di,dj,dm,du,dw,dx,dy],[]⟩ w'):
  (Code.region 15 ops true).wp prog Q ⟨#[u0,u1,u2,u3,u4,u5,u6,u7,u8,u9,.slice (some ad) n c,gA,gC,gD,.int .i64 k,.pointer (some ⟨g15,0,none⟩),gG,.pointer (some ⟨g17,0,none⟩),gI,gJ,gK,gL,gM,gN,gO,gP,gQ,gR,gT,gV,gW,gX,gY,gZ,i6,i7,i8,ia,ib,ic,ie,ig,ii,ij,ik,il,im,io,ip,iq,ir,iu,iv,iw,ix,iy,iz,iA,iB,iC,iD,iE,iF,iG,iH,iI,iJ,iK,iL,iM,iN,iO,iP,iQ,iR,iS,iT,iU,iV,iW,iX,iY,iZ,j0,j1,j2,j5,j6,j7,j8,j9,jb,jd,jf,jg,jh,ji,jj,jk,jl,bB,bD,bE,bF,bG,bH,bI,bJ,bK,bL,bM,bN,bO,bP,bQ,bT,bU,bV,bW,bX,bY,bZ,cj,ck,cn,cx,cy,cz,cA,cB,cD,cF,cG,cH,cI,cJ,cK,cM,cN,cO,cP,cQ,cS,cT,cU,cW,cZ,da,dc,dd,de,df,dg,dh,di,dj,dm,du,dw,dx,dy],[]⟩ V:=by
 simp only[Tryz.f50,Option.bind_some,zcn] at hops
 simp at hops
 subst hops;have HQ:=hd_ hQ;have HK:=hd_ (fun X=>zpc hz.loc wz.loc X);obtain⟨x0,-,-⟩:=id hH;obtain⟨-,y1,y2⟩:=z3s (x:=wz) h15;obtain⟨-,-,z2⟩:=z3s (x:=hz) h17;have n0:=World.new_ne V _ x0;have n1:=World.new_ne V _ y1;have n2:=World.new_ne V _ z2;clear hQ hH h15 h17;go_region_held3 (fun w'=>w'.cell? (ad.add (k * 3))=some (.string a.path)∧w'.cell? ⟨g15,1,none⟩=some (.int .i64 wz.num)∧w'.cell? ⟨g15,2,none⟩=some (.string wz.loc)∧w'.cell? ⟨g17,2,none⟩=some (.string hz.loc))
  (go_keep)
  (first
   | (go_at_call 95;refine (HK.out _).mono ?_;rintro e w8 ⟨rfl,rfl⟩))
 all_goals exact HQ.out _ _ _ _ _ _ _ _ _ _ _ _ _ _ _ _ _ _ _ (Blk.drew' (z0l V [.int .i64 (z3p hz.loc wz.loc),.string a.path,.int .i64 wz.num,.string hz.loc,.string wz.loc] 50)) (Nat.le_refl _) (((Below.refl _ _).alloc (Nat.le_refl _) _).drew)
end
