/- syncplan.result: its last loop; result of a nil have-list. -/
import Derived.Test.YtegeboijhifmcaaGreatDoorMgw9
import Derived.Test.YtegeboijhifmcaaGreatDoorMgw15
import Derived.Test.YtegeboijhifmcaaGreatDoorMzDfB
import Derived.Test.YtegeboijhifmcaaGreatDoorMgw12
import Derived.Test.YtegeboijhifmcaaGreatDoorMgw18
import Derived.Test.YtegeboijhifmcaaGreatDoorMgw22
import Derived.Test.YtegeboijhifmcaaGreatDoorMgw24
namespace Go.Proofs.YtegeboijhifmcaaGreatDoor
set_option linter.unusedVariables false
set_option linter.unusedSimpArgs false
set_option maxHeartbeats 4000000
set_option maxRecDepth 100000
open Go.RowKit
open Go.Sort (grow)
theorem zj7 (r:List Syn)(k:Nat)(hk:k<r.length):(r.take (k+1)).flatMap z4t=(r.take k).flatMap z4t++z4t r[k]:=by
 rw[List.take_succ_eq_append_getElem hk,z56]
theorem zj8 (x:Syn):(z4s x).length≤1:=by unfold z4s;split <;> simp
theorem zj9 (x:Syn):(z4t x).length≤1:=by unfold z4t;split;simp;exact zj8 x
theorem zja (l:List Syn):(l.flatMap z4t).length≤l.length:=by
 induction l with
 | nil=>simp
 | cons x l ih=>rw[List.flatMap_cons,List.length_append,List.length_cons];have:=zj9 x;omega
theorem room40 {n:Nat}(h:n≤1000000):n * 40≤140737488355328:=Nat.le_trans (Nat.mul_le_mul_right 40 h) (by decide)
theorem zjb (O:List Hav)(r:List Syn)(hl:O.length+r.length+1≤1000000)(k:Nat):((O++(r.take k).flatMap z4t).length+1) * 40≤140737488355328:=by
 have:=zja (r.take k);rw[List.length_take] at this;have h2:(O++(r.take k).flatMap z4t).length=O.length+((r.take k).flatMap z4t).length:=List.length_append;exact room40 (by omega)
theorem rsT17 (T:Code)(hT:Tryz.f39.body.bind (zhv 17)=some T)(R:Ending→World→Prop)(w0 w:World)(O:List Hav)(r:List Syn)(v:Value)(A1:Option Addr)(c1:Nat)
  (hA:Aft w0 w w0.heap.size O v) (hS:z4z w0 (.slice A1 r.length c1) r) (hl:O.length+r.length+1≤1000000)
  (hRR:∀ v' X,Aft w0 X w0.heap.size (O++r.flatMap z4t) v'→R (.returned v') X)
  (u0 u2 u3 u4 u7 u8 u9 gn gt gu gx gy gz gA gC gD gE gF gG gH gI gJ gK gL gM gN gO gP gQ gR gT gV gW gX gY gZ i6 i7 i8 ia ib ic ie ig ii ij ik il im io ip iq ir iu iv iw ix iy iz iA iB iC iD iE iF iG iH iI iJ iK iL iM iN iO iP iQ iR iS iT iU iV iW iX iY iZ j0:Value):
  T.wp Tryz.prog (bodyPost Tryz.prog Tryz.f39 R) ⟨#[u0,.slice A1 r.length c1,u2,u3,u4,.pointer (some ⟨w0.heap.size,0,none⟩),.func (.func 63) #[] #[.pointer (some ⟨w0.heap.size,0,none⟩)],u7,u8,u9,gn,gt,gu,gx,gy,gz,gA,gC,gD,gE,gF,gG,gH,gI,gJ,gK,gL,gM,gN,gO,gP,gQ,gR,gT,gV,gW,gX,gY,gZ,i6,i7,i8,ia,ib,ic,ie,ig,ii,ij,ik,il,im,io,ip,iq,ir,iu,iv,iw,ix,iy,iz,iA,iB,iC,iD,iE,iF,iG,iH,iI,iJ,iK,iL,iM,iN,iO,iP,iQ,iR,iS,iT,iU,iV,iW,iX,iY,iZ,j0],[]⟩ w:=by
 simp only[Tryz.f39,Option.bind_some,zhv,zhu] at hT
 simp at hT
 subst hT;obtain⟨A2,c2,e2,hc,hm,-⟩:=id hS;have hm':r.length≤140737488355328:=by omega
 clear hc hm e2 A2 c2;have HRR:=hd_ hRR;have HS:=hd_ hS;have HA:=hd_ hA;have HL:=hd_ (zjb O r hl);clear hRR hS hA hl;go_wp2_with fail;go_loopw [77] (fun i wr=>∃(k:Nat) (v':Value),k≤r.length∧i=.int .i64 k∧Hid (Aft w0 wr w0.heap.size (O++(r.take k).flatMap z4t) v')) (fun i _=>r.length - (intOf i).toNat)
 case atStart=>exact⟨0,v,Nat.zero_le _,rfl,hd_ (by rw[List.take_zero,List.flatMap_nil,List.append_nil];exact HA.out)⟩
 case round =>
  obtain⟨k,v',hk,rfl,HI⟩:=hrel;clear HA;by_cases hlt:k<r.length
  ·obtain⟨ad,rfl,hab,y0,y1,y2,y3,y4⟩:=z4z.at_ (HS.out.below HI.out.bel) hlt;have HST:=hd_ (zj7 r k hlt);have HLK:=hd_ (HL.out k);generalize r[k]=x at y0 y1 y2 y3 y4 HST;have HX:=hd_ (HI.out.alloc (.cells #[.int .i64 x.kind,.string x.path,.int .i64 x.num,.string x.frm,.string x.dst] 48));obtain⟨z0,z1,z2,z3,z4⟩:=z3r (x:=x) (z0l wr [.int .i64 x.kind,.string x.path,.int .i64 x.num,.string x.frm,.string x.dst] 48);have HSY:=hd_ (z3u x (wr.alloc (.cells #[.int .i64 x.kind,.string x.path,.int .i64 x.num,.string x.frm,.string x.dst] 48)));cases hst:z3o x.kind with
   | true =>
    have HP:Hid (z4t x=[]):=hd_ (by unfold z4t;rw[hst];rfl)
    rw[hst] at HSY;clear hst;go_wp2_with fail;refine HSY.out.mono ?_;rintro e w' ⟨rfl,hb⟩;have HX2:=hd_ (HX.out.under hb);clear hb;go_wp2_with fail;go_roundw
    case rel=>exact⟨k+1,v',by omega,by go_num,by rw[HST.out,HP.out,List.append_nil];exact HX2⟩
    case measure=>simp [intOf];omega
   | false =>
    have HP:Hid (z4t x=z4s x):=hd_ (by unfold z4t;rw[hst];rfl)
    rw[hst] at HSY;clear hst;go_wp2_with fail;refine HSY.out.mono ?_;rintro e w' ⟨rfl,hb⟩;have HX2:=hd_ (HX.out.under hb);have HB2:=hd_ ((z0l wr [.int .i64 x.kind,.string x.path,.int .i64 x.num,.string x.frm,.string x.dst] 48).below hb (by simp))
    clear hb;obtain⟨q0,q1,q2,q3,q4⟩:=z3r (x:=x) HB2.out;have HAD:=hd_ (z58 x w0 w' w0.heap.size _ v' HX2.out HLK.out);go_wp2_with fail;refine HAD.out.mono ?_;rintro e w3 ⟨rfl,v3,h3,h4⟩;have HX3:=hd_ h3;clear h3 h4;go_wp2_with fail;go_roundw
    case rel=>exact⟨k+1,v3,by omega,by go_num,by rw[HST.out,HP.out,← List.append_assoc];exact HX3⟩
    case measure=>simp [intOf];omega
  ·have hbx:wr.cell? ⟨w0.heap.size,0,none⟩=some v':=HI.out.box.cell 0;have HT:Hid (r.take k=r):=hd_ (List.take_of_length_le (by omega))
   have HR:=hd_ (HRR.out v' wr (by have:=HI.out;rw[HT.out] at this;exact this))
   go_wp2_with fail;exact HR.out
theorem z4z.tail2 {w:World}{ad:Addr}{c n:Nat}{x:Syn}{r:List Syn}(h:z4z w (.slice (some ad) n c) (x :: r)):
  z4z w (.slice (if c=1 then some ad else some ⟨ad.block,ad.off+5,none⟩) r.length (c - 1)) r:=by
 obtain⟨A,c',e,h1,h2,h3,h4,h5⟩:=id h;injection e with e1 e2 e3
 subst e1 e3;rw[List.length_cons] at h1 h5;refine⟨_,_,rfl,by omega,by omega,by
  rw[List.flatMap_cons,List.length_append,List.length_cons] at h3;have h9:x.cells.length=5:=rfl;omega,?_,fun hr=>?_⟩
 ·intro hn;split at hn <;> cases hn
 obtain⟨ad',e',hb,hc⟩:=h5 (by omega)
 injection e' with e'
 subst e';rw[if_neg (by omega)]
 refine⟨_,rfl,hb,fun j u hj=>?_⟩;have:=hc (j+5) u (by
  rw[List.flatMap_cons,List.getElem?_append_right (by simp [Syn.cells])]
  simpa [Syn.cells] using hj)
 unfold Addr.add at this ⊢
 by_cases h0:j=0
 ·subst h0;simpa using this
 ·simpa [Nat.add_assoc,Nat.add_comm 5 j,h0] using this
def zjc (h:Hav)(hs:List Hav)(ps:List Syn):List Hav:=z4u h.path ps++z4w h (z4v h.path ps)++z4y hs (z4x h (z4v h.path ps))
theorem zjd {h:Hav}{hs:List Hav}{x:Syn}{r:List Syn}(hc:z2u x.path h.path<0):zjc h hs (x :: r)=z4t x++zjc h hs r:=by
 unfold zjc;rw[z4u,z4v,if_pos hc,if_pos hc,List.append_assoc,List.append_assoc,List.append_assoc]
theorem zje {h:Hav}{hs:List Hav}:zjc h hs []=h :: z4y hs []:=rfl
theorem zjf {h:Hav}{hs:List Hav}{x:Syn}{r:List Syn}(hc:¬ z2u x.path h.path<0)(hp:x.path=h.path)(hk:z3o x.kind=true):zjc h hs (x :: r)=h :: z4y hs r:=by
 unfold zjc;rw[z4u,z4v,if_neg hc,if_neg hc,z4w,z4x,if_pos hp,if_pos hp,if_pos hk];rfl
theorem resM_go {h:Hav}{hs:List Hav}{x:Syn}{r:List Syn}(hc:¬ z2u x.path h.path<0)(hp:x.path=h.path)(hk:z3o x.kind=false):zjc h hs (x :: r)=z4s x++z4y hs r:=by
 unfold zjc;rw[z4u,z4v,if_neg hc,if_neg hc,z4w,z4x,if_pos hp,if_pos hp,hk];rfl
theorem zjg {h:Hav}{hs:List Hav}{x:Syn}{r:List Syn}(hc:¬ z2u x.path h.path<0)(hp:¬ x.path=h.path):zjc h hs (x :: r)=h :: z4y hs (x :: r):=by
 unfold zjc;rw[z4u,z4v,if_neg hc,if_neg hc,z4w,z4x,if_neg hp,if_neg hp];rfl
theorem zjh (p:ByteArray)(l:List Syn):(z4u p l).length+(z4v p l).length≤l.length:=by
 induction l with
 | nil=>simp [z4u,z4v]
 | cons x r ih =>
  rw[z4u,z4v];split
  ·have:=zj9 x;rw[List.length_append,List.length_cons];omega
  ·simp
theorem zji (h:Hav)(l:List Syn):(z4w h l).length+(z4x h l).length≤l.length+1:=by
 cases l with
 | nil=>simp [z4w,z4x]
 | cons x r =>
  rw[z4w,z4x];split
  ·have:=zj8 x;split <;> simp <;> omega
  ·simp;omega
theorem zjj:∀(hs:List Hav) (ps:List Syn),(z4y hs ps).length≤hs.length+ps.length
 | [],ps=>by have:=zja ps;rw[z4y];simpa using this
 | h :: hs,ps=>by
  have h1:=zjh h.path ps;have h2:=zji h (z4v h.path ps);have h3:=zjj hs (z4x h (z4v h.path ps));rw[z4y,List.length_append,List.length_append,List.length_cons];omega
theorem zjk {O T L:List Hav}{m:Nat}(h:O++T=L)(hl:L.length≤m)(hm:m+1≤1000000):(O.length+1) * 40≤140737488355328:=by
 have:=congrArg List.length h;rw[List.length_append] at this;exact room40 (by omega)
theorem bdR13 (ops:Array Oper)(hops:Tryz.f218.body.bind (zci 13)=some ops)(Q:Exit→Act→World→Prop)(V:World)(gp gq np nq a b:Nat)(A B:Option Addr)(l:List ByteArray)
  (hP:zbo V gp (.slice A np a) true) (hQB:zbo V gq (.slice B nq b) true) (hS:Strs V (.slice B nq b) l) (hl:l.length=nq) (hn:np≤nq) (hb:nq≤1000)
  (u0 u1 u4 u5 u7 u8 u9 gn gt gu gx gy gz gA gC gD gE gF gG gH gI gJ gK gL gM gN gO gP gQ gR gT gV gW gX gY gZ i6 i7 i8 ia ib ic ie ig ii ij ik il im io ip iq ir iu iv iw ix iy iz iA iB iC:Value)
  (hQ:∀(fe ff fg fh fj fk fm fp fq ft fu fv fw:Value) (B1:Addr) (c1:Nat) (A':Option Addr) (c':Nat) (w':World),Hid (Below V.heap.size V w'∧Row w' 2 (.slice (some B1) 1 c1) 1 [.slice A' (nq - np) c',.bool true]∧Strs w' (.slice A' (nq - np) c') (l.drop np))→Q .normal ⟨#[u0,u1,.pointer (some ⟨gp,0,none⟩),.pointer (some ⟨gq,0,none⟩),u4,u5,.slice (some B1) 1 c1,u7,u8,u9,gn,gt,gu,gx,gy,gz,gA,gC,gD,gE,gF,gG,gH,gI,gJ,gK,gL,gM,gN,gO,gP,gQ,gR,gT,gV,gW,gX,gY,gZ,i6,i7,i8,ia,ib,ic,ie,ig,ii,ij,ik,il,fe,ff,fg,fh,fj,fk,fm,fp,fq,ft,fu,fv,fw,iC],[]⟩ w'):
  (Code.region 13 ops true).wp Tryz.prog Q ⟨#[u0,u1,.pointer (some ⟨gp,0,none⟩),.pointer (some ⟨gq,0,none⟩),u4,u5,.slice none 0 0,u7,u8,u9,gn,gt,gu,gx,gy,gz,gA,gC,gD,gE,gF,gG,gH,gI,gJ,gK,gL,gM,gN,gO,gP,gQ,gR,gT,gV,gW,gX,gY,gZ,i6,i7,i8,ia,ib,ic,ie,ig,ii,ij,ik,il,im,io,ip,iq,ir,iu,iv,iw,ix,iy,iz,iA,iB,iC],[]⟩ V:=by
 simp only[Tryz.f218,Option.bind_some,zci] at hops
 simp at hops
 subst hops;subst hl;obtain⟨Af,cf,hsl,hrw⟩:=zm5 (P:=Tryz.prog) (w:=V) Tryz.underlying29 zby hS hn;have HQ:=hd_ hQ;have HROW:Hid (∀ W,Below V.heap.size V W→Row W 1 (.slice Af (l.length - np) cf) (l.length - np) ((l.drop np).map .string)):=hd_ fun W hW=>by
  have:=hrw W (Strs.below hS hW);rw[Nat.mul_one,← List.map_drop] at this;exact this
 have HONE:Hid (∀ v∈(l.drop np).map Value.string,v.oneCell'=true):=hd_ (fun v hv=>by obtain⟨x,-,rfl⟩:=List.mem_map.1 hv;rfl)
 have HF:Hid (∀ w',Below V.heap.size V w'→w'.cell? ⟨gp,0,none⟩=some (.slice A np a)∧w'.cell? ⟨gq,0,none⟩=some (.slice B l.length b)∧w'.cell? ⟨gq,1,none⟩=some (.bool true)):=hd_ fun w' hw=>⟨(hP.low hw).c0,(hQB.low hw).c0,(hQB.low hw).c1⟩;have HLD:Hid ((l.drop np).length=l.length - np):=hd_ (List.length_drop);clear hQ hP hQB hrw hS;obtain⟨f0,f1,f2⟩:=HF.out V (Below.refl _ _);refine wp_region_noPanic ?_;go_region_law (first
   | (refine zce (base:=V.heap.size) (n:=0) (xs:=[]) rfl rfl zln (World.ownsRow_nil _ _ _ _) (by simp [Act.eval,Act.put];done) (HROW.out _ (Below.refl _ _).drew) (by simp [Act.eval,Act.put];done) HONE.out (by omega) (by unfold maxLen;omega) (by simp) ?_;intro A5 c5 w5 hO5 hG5 hw5;have hX5:=zm9 hG5 rfl;have hS5:Below V.heap.size V w5:=(Below.refl _ _).drew.trans hX5;obtain⟨f5,f6,f7⟩:=HF.out w5 hS5;rw[Nat.zero_add,List.nil_append] at hO5)
   | (refine zce (base:=V.heap.size) (n:=0) (xs:=[]) rfl rfl zco (World.ownsRow_nil _ _ _ _) (by simp [Act.eval,Act.put];done) (z0i w5 [.slice A5 (l.length - np) c5,.bool true] _ 2 1 rfl (by decide) _ rfl) (by simp [Act.eval,Act.put];done) (by simp [Value.oneCell']) (by omega) (by unfold maxLen;omega) (by have:=hS5.size;simp;omega) ?_;intro A6 c6 w6 hO6 hG6 hw6;have hX6:=zm9 hG6 rfl;have hS6:Below V.heap.size V w6:=z0r hS5 (z0r ((Below.refl _ _).alloc (Nat.le_refl _) _) hX6);have hT6:Row w6 1 (.slice A5 (l.length - np) c5) (l.length - np) ((l.drop np).map .string):=Row.of_own (z0n hO5 (z0r ((Below.refl _ _).alloc (Nat.le_refl _) _) hX6));obtain⟨B1,hB1⟩:∃ B1,A6=some B1:=(by obtain⟨A7,c7,e7,-,-,-,-,h7⟩:=Row.of_own hO6;injection e7 with e7 e8 e9;obtain⟨ad,e10,-⟩:=h7 (by omega);exact⟨ad,by rw[e7,e10]⟩);subst hB1;rw[Nat.zero_add,List.nil_append] at hO6))
 all_goals exact NoPanic.normal (HQ.out _ _ _ _ _ _ _ _ _ _ _ _ _ _ _ _ _ _ (hd_ ⟨hS6,Row.of_own hO6,by unfold Strs;rw[HLD.out];exact hT6⟩))
theorem znn (p q:Pat)(A B:Option Addr)(a b:Nat)(w:World)(hp:za9 w (.slice A p.parts.length a) p)(hq:za9 w (.slice B q.parts.length b) q)(hn:zcm p)(hqr:q.rest=true)(hqe:z7e q=0)(hw:WiOk q p):
  Calls Tryz.prog 218 #[.agg #[.slice A p.parts.length a,.bool true],.agg #[.slice B q.parts.length b,.bool true]] w (zcp w p q):=by
 have hA:Below w.heap.size w ((w.alloc (.cells #[.slice A p.parts.length a,.bool true] 97)).alloc (.cells #[.slice B q.parts.length b,.bool true] 97)):=((Below.refl _ _).alloc (Nat.le_refl _) _).alloc (by simp) _
 have h2:zbo ((w.alloc (.cells #[.slice A p.parts.length a,.bool true] 97)).alloc (.cells #[.slice B q.parts.length b,.bool true] 97)) w.heap.size (.slice A p.parts.length a) true:=(z0l w [.slice A p.parts.length a,.bool true] 97).alloc _;have h3:zbo ((w.alloc (.cells #[.slice A p.parts.length a,.bool true] 97)).alloc (.cells #[.slice B q.parts.length b,.bool true] 97)) (w.heap.size+1) (.slice B q.parts.length b) true:=by
  have:=z0l (w.alloc (.cells #[.slice A p.parts.length a,.bool true] 97)) [.slice B q.parts.length b,.bool true] 97;rw[World.size_alloc] at this;exact this
 have HWI:=hd_ (fun X (hX:Below w.heap.size w X)=>znm q p B A b a X (hq.below hX) (hp.below hX) hqr hn.rest hqe hn.pat hw);have HST:Hid (∀(k:Nat) (h:k<p.parts.length) X,Calls Tryz.prog 217 #[.string p.parts[k]] X fun e w'=>∃ s,e=.returned (.tuple #[.string s,.bool false])∧Below X.heap.size X w'):=hd_ fun k h X=>by
  have h0:z94 p.parts[k]=false:=by unfold z94;rw[hn.star _ (List.getElem_mem h)];rfl
  refine (z9n p.parts[k] X (hp.small _ (List.getElem_mem h))).mono ?_;rintro e w' ⟨rfl,rfl⟩;rw[h0];exact⟨_,rfl,Below.refl _ _⟩
 have hle:=hw.le;have hq12:=znl hqe;have HP:=hd_ hp;have HQ:=hd_ hq;clear hp hq hn hqr hqe hw;go_enter Tryz.func218,Tryz.ntmps218;go_upto_region 1 with fail;generalize (w.alloc (.cells #[.slice A p.parts.length a,.bool true] 97)).alloc (.cells #[.slice B q.parts.length b,.bool true] 97)=W1 at hA h2 h3 ⊢;have x0:=h2.c0;have x1:=h2.c1;have y0:=h3.c0;have y1:=h3.c1;have H:=hd_ (And.intro hA (And.intro h2 h3));have HC1:=hd_ (HWI.out W1 hA);clear hA h2 h3;go_wp2_with fail;refine HC1.out.mono ?_;rintro e w2 ⟨rfl,hb⟩;dsimp only;have HB:=hd_ (z0r H.out.1 hb);have HG:=hd_ (And.intro (H.out.2.1.low hb) (H.out.2.2.low hb));clear hb x0 x1 y0 y1;have x0:=HG.out.1.c0;go_wp2_with fail;clear x0;go_loopw [6,19] (fun v i wr=>∃ k:Nat,v=.slice none 0 0∧i=.int .i64 k∧k≤p.parts.length∧Hid (Below w2.heap.size w2 wr)) (fun _ i _=>p.parts.length - (intOf i).toNat)
 case atStart=>exact⟨0,rfl,rfl,Nat.zero_le _,hd_ (Below.refl _ _)⟩
 case round =>
  obtain⟨k,rfl,rfl,hk,HI⟩:=hrel;by_cases hlt:k<p.parts.length
  ·obtain⟨ad,rfl,hab,s0⟩:=Strs.at_ (HP.out.below (z0r HB.out HI.out)).1 hlt;have HCI:=hd_ (HST.out k hlt wr);have HLT:=hd_ hlt;generalize p.parts[k]=v at s0 HCI;go_wp2_with fail;refine HCI.out.mono ?_;rintro e w4 ⟨s,rfl,hb⟩;dsimp only;have HB4:=hd_ (z0r HI.out hb);clear hb s0;go_wp2_with fail;go_roundw
   case rel=>exact⟨k+1,rfl,by go_num,by have:=HLT.out;omega,HB4⟩
   case measure=>have:=HLT.out;simp [intOf];omega
  ·have hke:k=p.parts.length:=by omega
   have HB5:=hd_ (z0r HB.out HI.out);have HG5:=hd_ (And.intro (HG.out.1.low HI.out) (HG.out.2.low HI.out));have x1:=HG5.out.1.c1;subst hke;go_upto_region 13 with fail;refine bdR13 _ (by kernel_rfl) _ wr w.heap.size (w.heap.size+1) p.parts.length q.parts.length a b A B q.parts HG5.out.1 HG5.out.2 (HQ.out.below HB5.out).1 rfl hle (by omega) _ _ _ _ _ _ _ _ _ _ _ _ _ _ _ _ _ _ _ _ _ _ _ _ _ _ _ _ _ _ _ _ _ _ _ _ _ _ _ _ _ _ _ _ _ _ _ _ _ _ _ _ _ _ _ _ _ _ _ _ _ _ ?_
   intro fe ff fg fh fj fk fm fp fq ft fu fv fw B1 c1 A' c' w5 HO;have HB6:=hd_ (z0r HB5.out HO.out.1);clear x1;go_wp2_with fail;go_ret2;exact⟨HB6.out,B1,c1,A',c',rfl,HO.out.2.1,HO.out.2.2⟩
def zol (w:World)(l:List Hav)(e:Ending)(w':World):Prop:=∃ v,e=.returned v∧w'.ownsRow w.heap.size 44 3 v l.length (l.flatMap Hav.cells)∧Below w.heap.size w w'
theorem zom (l:List Hav)(v:Value)(h:Hav)(w:World)(he:Env w)(hH:z4b w v l)(hv:∀ x∈l,z2s x.path=true∧x.path.size≤1000000)(hp:z2s h.path=true)(hz:h.path.size≤1000000)(hl:l.length≤1000):
  Calls Tryz.prog 97 #[v,.agg #[.string h.path,.int .i64 h.num,.string h.loc]] w (zol w (zlr l h)):=by
 obtain⟨A,c,rfl,-⟩:=id hH;have hA:Below w.heap.size w (w.alloc (.cells #[.string h.path,.int .i64 h.num,.string h.loc] 44)):=(Below.refl _ _).alloc (Nat.le_refl _) _;have hB:=z0l w [.string h.path,.int .i64 h.num,.string h.loc] 44;have HF:=hd_ (zm3 l _ h.path _ (he.below hA) (hH.under hA) hv hp hz (by omega))
 have HH:=hd_ hH;have HB:=hd_ hB;have HA:=hd_ hA;obtain⟨hle,hlt⟩:=zls l h.path;have HPUT:Hid (zlr l h=l.take (zlq l h.path).1++h :: l.drop ((zlq l h.path).1+if (zlq l h.path).2 then 1 else 0)):=hd_ rfl;obtain⟨i,hi⟩:∃ i,(zlq l h.path).1=i:=⟨_,rfl⟩;obtain⟨b,hb⟩:∃ b,(zlq l h.path).2=b:=⟨_,rfl⟩;rw[hi,hb] at HF HPUT;rw[hi] at hle hlt;rw[hb] at hlt;have HLT:=hd_ hlt;clear hA he hH hv hp hz hi hb hlt;obtain⟨f0,-,-⟩:=z3s (x:=h) hB;clear hB;go_enter Tryz.func97,Tryz.ntmps97;go_upto_region 2 with fail;refine HF.out.mono ?_;rintro e w2 ⟨rfl,hb2⟩;have HB2:=hd_ (HB.out.below hb2 HB.out.lt);have HA2:=hd_ (z0r HA.out hb2);clear hb2 f0 HF;go_upto_region 2 with fail;refine puR2 _ (by kernel_rfl) _ w2 A c w.heap.size i l h (HH.out.under HA2.out) HB2.out hle (by omega) _ _ _ _ _ _ _ _ _ _ _ _ _ _ _ _ _ _ _ _ _ _ _ _ _ _ _ ?_
 intro el em en eo er et eu A' c' w3 HO;have HB3:=hd_ (z0r HA2.out HO.out.1);have hown:w3.ownsRow w.heap.size 44 3 (.slice A' (i+1) c') (i+1) ((l.take i++[h]).flatMap Hav.cells):=z4p HO.out.2 HA2.out.size;have HOWN:=hd_ hown;have hbs:=HB3.out.size;have HFIN:Hid (∀(b':Nat) (v:Value) (n:Nat) (w':World),n=(i+1)+(l.length - b')→b'≤l.length→b'=i+(if b=true then 1 else 0)→w'.ownsRow w.heap.size 44 3 v n ((l.take i++[h]).flatMap Hav.cells++(l.drop b').flatMap Hav.cells)→w'.ownsRow w.heap.size 44 3 v (zlr l h).length ((zlr l h).flatMap Hav.cells)):=hd_ fun b' v n w' hn hb' hbe ho=>by
  rw[hbe] at ho;have e1:zlr l h=(l.take i++[h])++l.drop (i+if b=true then 1 else 0):=by rw[HPUT.out];simp
  rw[e1,List.flatMap_append];have e2:((l.take i++[h])++l.drop (i+if b=true then 1 else 0)).length=n:=by
   rw[hn,hbe] at *;simp only[List.length_append,List.length_take,List.length_singleton,List.length_drop]
   omega
  rw[e2];exact ho
 clear HO hown;cases b
 ·obtain⟨Af,cf,hsl,hrw⟩:=zm5 (P:=Tryz.prog) (w:=w3) Tryz.underlying28 zio (HH.out.under HB3.out) hle;have HR:Hid (Row w3 3 (.slice Af (l.length - i) cf) (l.length - i) ((l.drop i).flatMap Hav.cells)):=hd_ (by rw[← zm8];exact hrw w3 (HH.out.under HB3.out))
  clear hrw;have hol:=HOWN.out;have HDO:Hid (∀ v∈(l.drop i).flatMap Hav.cells,v.oneCell'=true):=hd_ (zm6 _);go_upto_region 5 with fail;go_wp2_with (at_builtin;refine z0j (base:=w.heap.size) rfl rfl z54 HOWN.out rfl HR.out rfl HDO.out (by omega) (by unfold maxLen;omega) hbs ?_;intro A6 c6 w6 hO6 hG6 hw6)
  have hX6:Below w.heap.size w w6:=HB3.out.grown hG6 hbs (fun k e=>(HOWN.out.lt k e).1);go_ret;exact⟨_,rfl,HFIN.out i _ _ _ rfl hle (by simp) hO6,hX6⟩
 ·have hlt:=HLT.out rfl;have hw1:IntKind.i64.wrap ((i:Int)+1)=((i+1:Nat):Int):=by rw[IntKind.wrap_i64];omega
  obtain⟨Af,cf,hsl,hrw⟩:=zm5 (P:=Tryz.prog) (w:=w3) Tryz.underlying28 zio (HH.out.under HB3.out) (show i+1≤l.length from hlt);have hsl2:∀ X,(Instr.sliceAt 28 (.slice A l.length c) (some (.int .i64 ((i:Int)+1))) none none).run Tryz.prog X=.ok (.slice Af (l.length - (i+1)) cf) X:=fun X=>hsl X;have hw2:IntKind.i64.wrap ((i:Int)+1)=(i:Int)+1:=by rw[IntKind.wrap_i64];omega
  clear hw1 hsl;have HR:Hid (Row w3 3 (.slice Af (l.length - (i+1)) cf) (l.length - (i+1)) ((l.drop (i+1)).flatMap Hav.cells)):=hd_ (by rw[← zm8];exact hrw w3 (HH.out.under HB3.out))
  clear hrw;have HDO:Hid (∀ v∈(l.drop (i+1)).flatMap Hav.cells,v.oneCell'=true):=hd_ (zm6 _);go_upto_region 5 with fail;go_wp2_with (at_builtin;refine z0j (base:=w.heap.size) rfl rfl z54 HOWN.out rfl HR.out rfl HDO.out (by omega) (by unfold maxLen;omega) hbs ?_;intro A6 c6 w6 hO6 hG6 hw6)
  have hX6:Below w.heap.size w w6:=HB3.out.grown hG6 hbs (fun k e=>(HOWN.out.lt k e).1);go_ret;exact⟨_,rfl,HFIN.out (i+1) _ _ _ rfl hlt (by simp) hO6,hX6⟩
end Go.Proofs.YtegeboijhifmcaaGreatDoor
