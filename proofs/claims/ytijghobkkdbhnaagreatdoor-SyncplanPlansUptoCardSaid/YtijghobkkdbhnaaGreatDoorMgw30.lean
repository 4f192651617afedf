/- A part. -/
import Derived.Test.YtijghobkkdbhnaaGreatDoorMgw22
set_option linter.unusedVariables false
set_option linter.unusedSimpArgs false
set_option maxHeartbeats 16000000
set_option maxRecDepth 100000
namespace Go.Proofs.YtijghobkkdbhnaaGreatDoor
open Go.Proofs.Tryz
open Go.RowKit
open Go.Sort (grow)
def flH (h:Hav):Fl:=(h.path,h.loc)
def prF (pl:List Syn)(L:List Nat)(k:Nat):List Syn:=(L.take k).filterMap fun i=>pl[i]?
theorem zkl {pl:List Syn}{L:List Nat}{k i:Nat}(hk:k<L.length)(hi:i<pl.length)(e:L[k]=i):prF pl L (k+1)=prF pl L k++[pl[i]]:=by
 unfold prF;rw[List.take_succ_eq_append_getElem hk,List.filterMap_append,e];simp [List.getElem?_eq_getElem hi]
structure Bk4 (X wr:World)(B B2:Nat)(Ap:Option Addr)(c bC:Nat)(hs:List Hav)(pl:List Syn)(N:Nat)(b:ByteArray→Bool)(QH:List Hav)(qv:Value):Prop where
 mem:Bk3 X wr B B2 Ap c bC pl b QH qv
 st:BkSt hs pl b (QH.map flH)
 num:QH.length+zk1 b pl≤N
structure Bk5 (X wr:World)(B B2:Nat)(Ap:Option Addr)(c bC g13:Nat)(hs:List Hav)(pl:List Syn)(N:Nat)(b:ByteArray→Bool)(QH:List Hav)(qv:Value)(h:Hav)(Ar:Option Addr)(mr k:Nat):Prop where
 mem:Bk3 X wr B B2 Ap c bC pl b QH qv
 st:BkIn hs pl b (QH.map flH) h.path h.loc (prF pl (zk9 pl pl.length h.loc) k)
 num:QH.length+zk1 b pl≤N
 box:Blk wr g13 96 [.string h.path,.int .i64 h.num,.string h.loc]
 far:B2≤g13
 row:wr.ownsRow X.heap.size 3 1 (.slice Ar (zk9 pl pl.length h.loc).length mr) (zk9 pl pl.length h.loc).length (zk4 (zk9 pl pl.length h.loc))
 rup:∀ x,(Value.slice Ar (zk9 pl pl.length h.loc).length mr).ownBlock=some x→x<B2∧X.heap.size≤x
 qne:qv.ownBlock≠some g13
section
variable {X wr wx : World} {B B2 g c bC g13 N k i mr : Nat} {Ap : Option Addr} {hs : List Hav} {pl : List Syn} {b : ByteArray → Bool} {QH : List Hav} {qv : Value} {h : Hav} {Ar : Option Addr}
theorem Bk5.under (H:Bk5 X wr B B2 Ap c bC g13 hs pl N b QH qv h Ar mr k)(hb:Below wr.heap.size wr wx)(hB:B≤B2):Bk5 X wx B B2 Ap c bC g13 hs pl N b QH qv h Ar mr k:=⟨H.mem.under hb hB,H.st,H.num,H.box.below hb H.box.lt,H.far,z0n H.row hb,H.rup,H.qne⟩
theorem Bk5.at_ (H:Bk5 X wr B B2 Ap c bC g13 hs pl N b QH qv h Ar mr k)(hk:k<(zk9 pl pl.length h.loc).length):∃ ad,Ar=some ad∧ad.block<wr.heap.size∧wr.cell? (ad.add k)=some (.int .i64 ((zk9 pl pl.length h.loc)[k]:Nat)):=by
 obtain⟨A',m',e,-,-,-,-,hx⟩:=Row.of_own H.row;injection e with e1 e2 e3
 obtain⟨ad,e4,hb,hc⟩:=hx (by omega)
 refine⟨ad,by rw[e1,e4],hb,hc k _ ?_⟩
 unfold zk4;rw[List.getElem?_map,List.getElem?_eq_getElem hk];rfl
theorem Bk3.at3 (H:Bk3 X wr B B2 (some ⟨g,0,none⟩) c bC pl b QH qv)(hi:i<pl.length):z50 wr ⟨g,i * 5,none⟩ (zek b pl[i])∧wr.frozen? ⟨g,i * 5,none⟩=false:=by
 have hk2:i<(zel b pl).length:=by rw[markL_len];exact hi
 have e:(zel b pl)[i]=zek b pl[i]:=by
  show (pl.map (zek b))[i]'(by rw[List.length_map];exact hi)=_
  rw[List.getElem_map]
 have:=zjf.cell H.own hk2;rw[e] at this;exact this
theorem Bk5.skip (H:Bk5 X wr B B2 Ap c bC g13 hs pl N b QH qv h Ar mr k)(hk:k<(zk9 pl pl.length h.loc).length)(hi:i<pl.length)(e:(zk9 pl pl.length h.loc)[k]=i)(hx:pl[i].path=h.path∨z3o pl[i].kind=true∨b pl[i].path=true):
  Bk5 X wr B B2 Ap c bC g13 hs pl N b QH qv h Ar mr (k+1):=⟨H.mem,by rw[zkl hk hi e];exact bk_skip H.st hx,H.num,H.box,H.far,H.row,H.rup,H.qne⟩
theorem com_at (hk:k<(zk9 pl pl.length h.loc).length):∃ i,∃ hi:i<pl.length,(zk9 pl pl.length h.loc)[k]=i∧pl[i].dst=h.loc∧pl[i].dst≠z2l:=by
 obtain⟨h1,x,h2,h3,h4⟩:=comF_lt (List.getElem_mem hk);refine⟨_,h1,rfl,?_⟩;rw[List.getElem?_eq_getElem h1] at h2;injection h2 with h2
 rw[h2];exact⟨h3,h4⟩
theorem Bk5.set_ (H:Bk5 X wr B B2 Ap c bC g13 hs pl N b QH qv h Ar mr k)(hg:g<X.heap.size)(hX2:X.heap.size≤B2)(u:Value):Blk (wr.setCell ⟨g,i * 5,none⟩ u) g13 96 [.string h.path,.int .i64 h.num,.string h.loc]∧(wr.setCell ⟨g,i * 5,none⟩ u).ownsRow X.heap.size 3 1 (.slice Ar (zk9 pl pl.length h.loc).length mr) (zk9 pl pl.length h.loc).length (zk4 (zk9 pl pl.length h.loc)):=
 ⟨Blk.far H.box (by show g≠g13;have:=H.far;omega) u,z4r H.row (p:=⟨g,i * 5,none⟩) (fun e=>by have:=(H.rup g e).2;omega) u⟩
theorem Bk5.markN (H:Bk5 X wr B B2 (some ⟨g,0,none⟩) c bC g13 hs pl N b QH qv h Ar mr k)(hOk:zf6 hs)(hsrt:z6d pl)(hfrm:∀ x∈pl,x.frm=zjp hs x.path)(hB:B≤g)(hg:g<X.heap.size)(hX2:X.heap.size≤B2)(hC:X.heap.size≤bC)
  (hk:k<(zk9 pl pl.length h.loc).length) (hi:i<pl.length) (e:(zk9 pl pl.length h.loc)[k]=i) (hl:pl[i].dst=h.loc) (hd:pl[i].dst≠z2l) (hp:pl[i].path≠h.path) (hst:z3o pl[i].kind=false) (hb:b pl[i].path=false) (hf:pl[i].frm=z2l):
  Bk5 X (wr.setCell ⟨g,i * 5,none⟩ (.int .i64 5)) B B2 (some ⟨g,0,none⟩) c bC g13 hs pl N (setB b pl[i].path) QH qv h Ar mr (k+1)∧QH.length+zk1 (setB b pl[i].path) pl≤QH.length+zk1 b pl:=by
 have hm:=zk0 hsrt hOk hfrm H.st (List.getElem_mem hi) hp hst hd hl;rw[if_pos hf,← zkl hk hi e] at hm;have hn:=zk2 (List.getElem_mem hi) hst hb;have hnum:=H.num;exact⟨⟨H.mem.mark_ hsrt hi hg hB hX2 hC,hm,by omega,(H.set_ hg hX2 _).1,H.far,(H.set_ hg hX2 _).2,H.rup,H.qne⟩,by omega⟩
theorem Bk5.markY {A':Option Addr}{c':Nat}(H:Bk5 X wr B B2 (some ⟨g,0,none⟩) c bC g13 hs pl N b QH qv h Ar mr k)(hOk:zf6 hs)(hsrt:z6d pl)(hfrm:∀ x∈pl,x.frm=zjp hs x.path)(hB:B≤g)(hg:g<X.heap.size)(hX2:X.heap.size≤B2)(hC:X.heap.size≤bC)
  (hk:k<(zk9 pl pl.length h.loc).length) (hi:i<pl.length) (e:(zk9 pl pl.length h.loc)[k]=i) (hl:pl[i].dst=h.loc) (hd:pl[i].dst≠z2l) (hp:pl[i].path≠h.path) (hst:z3o pl[i].kind=false) (hb:b pl[i].path=false) (hf:¬ pl[i].frm=z2l)
  (hq:zjl wx B2 96 3 (.slice A' (QH.length+1) c') (QH.length+1) (QH.flatMap Hav.cells++[.string pl[i].path,.int .i64 0,.string pl[i].frm])) (hs2:zkk (wr.setCell ⟨g,i * 5,none⟩ (.int .i64 5)) wx qv) (hob:(Value.slice A' (QH.length+1) c').ownBlock=qv.ownBlock∨∃ x,(Value.slice A' (QH.length+1) c').ownBlock=some x∧(wr.setCell ⟨g,i * 5,none⟩ (.int .i64 5)).heap.size≤x):
  Bk5 X wx B B2 (some ⟨g,0,none⟩) c bC g13 hs pl N (setB b pl[i].path) (QH++[⟨pl[i].path,0,pl[i].frm⟩]) (.slice A' (QH.length+1) c') h Ar mr (k+1)∧(QH.length+1)+zk1 (setB b pl[i].path) pl≤QH.length+zk1 b pl:=by
 have hm:=zk0 hsrt hOk hfrm H.st (List.getElem_mem hi) hp hst hd hl;rw[if_neg hf,← zkl hk hi e] at hm;have hn:=zk2 (List.getElem_mem hi) hst hb;have hnum:=H.num;have hm3:=H.mem.mark_ hsrt hi hg hB hX2 hC;obtain⟨b1,b2⟩:=H.set_ (i:=i) hg hX2 (.int .i64 5);have hlt:=H.mem.que.lt;refine⟨⟨hm3.push (y:=⟨pl[i].path,0,pl[i].frm⟩) (by omega) (fun x e=>by injection e with e;have e':g=x:=e;omega) hq hs2,?_,by rw[List.length_append];simp;omega,?_,H.far,?_,H.rup,?_⟩,by omega⟩
 ·rw[List.map_append];exact hm
 ·exact (hs2.block b1.lt H.qne).trans b1
 ·refine⟨b2.1,?_⟩;rcases b2.2 with e4 | ⟨g',cap,cur,e1,h1,h2,h3⟩
  ·exact .inl e4
  ·refine .inr ⟨g',cap,cur,e1,h1,(hs2.block (Array.getElem?_eq_some_iff.1 h2).1 (fun e2=>?_)).trans h2,h3⟩;have a1:=(hlt g' e2).1;have a2:=(H.rup g' (by rw[e1];rfl)).1
   omega
 ·rcases hob with e5 | ⟨x,e5,h5⟩
  ·rw[e5];exact H.qne
  ·rw[e5];intro e6;injection e6 with e6;have:=b1.lt;omega
end
theorem bkT17 (T:Code)(hT:Tryz.f47.body.bind (zi2 17)=some T)(R:Ending→World→Prop)(X w:World)(B B2 g c bC N:Nat)(Ap:Option Addr)(hs:List Hav)(pl:List Syn)(hAp:0<pl.length→Ap=some ⟨g,0,none⟩)(QH:List Hav)(Aq:Option Addr)(cq:Nat)
  (hI:Bk4 X w B B2 Ap c bC hs pl N (fun _=>false) QH (.slice Aq QH.length cq)) (hOk:zf6 hs) (hsrt:z6d pl) (hfrm:∀ x∈pl,x.frm=zjp hs x.path)
  (hB:B≤g) (hg:g<X.heap.size) (hX2:X.heap.size≤B2) (hC:X.heap.size≤bC) (hn:pl.length≤1000000) (hN:N≤1000000)
  (hR:∀ w',zjf w' B (.slice Ap pl.length c) (zel (blB hs pl) pl)→Below B X w'→R (.returned (.tuple #[])) w')
  (u0 u2 u3 u4 u6 u7 u9 gz gA gC gD gE gF gG gH gI gJ gK gL gM gN gO gP gQ gR gT gV gW gX gY gZ i6 i7 i8 ia ib ic ie ig ii ij ik il im io ip iq ir iu iv iw ix iy iz iA iB iC iD iE iF iG iH iI iJ iK iL iM iN iO iP iQ iR iS iT iU iV iW iX iY iZ j0 j1 j2 j5 j6 j7 j8 j9 jb jd jf jg jh ji jj jk jl bB bD bE bF bG bH bI bJ bK bL bM bN bO bP bQ bT bU bV bW bX bY bZ cj ck cn cx cy:Value):
  T.wp prog (bodyPost prog Tryz.f47 R) ⟨#[u0,.slice Ap pl.length c,u2,u3,u4,.map (some bC),u6,u7,.slice Aq QH.length cq,u9,gz,gA,gC,gD,gE,gF,gG,gH,gI,gJ,gK,gL,gM,gN,gO,gP,gQ,gR,gT,gV,gW,gX,gY,gZ,i6,i7,i8,ia,ib,ic,ie,ig,ii,ij,ik,il,im,io,ip,iq,ir,iu,iv,iw,ix,iy,iz,iA,iB,iC,iD,iE,iF,iG,iH,iI,iJ,iK,iL,iM,iN,iO,iP,iQ,iR,iS,iT,iU,iV,iW,iX,iY,iZ,j0,j1,j2,j5,j6,j7,j8,j9,jb,jd,jf,jg,jh,ji,jj,jk,jl,bB,bD,bE,bF,bG,bH,bI,bJ,bK,bL,bM,bN,bO,bP,bQ,bT,bU,bV,bW,bX,bY,bZ,cj,ck,cn,cx,cy],[]⟩ w:=by
 simp only[Tryz.f47,Option.bind_some,zi2,zi1] at hT
 simp at hT
 subst hT;have HI:=hd_ hI;have HOK:=hd_ hOk;have HSRT:=hd_ hsrt;have HFRM:=hd_ hfrm;have HR:=hd_ hR;have hBB:B≤B2:=by omega
 clear hI hOk hsrt hfrm hR;go_wp2_with fail;go_loopg [8] (N+1) (fun gk q wr=>∃(b:ByteArray→Bool) (QH:List Hav) (A:Option Addr) (cq:Nat),q=.slice A QH.length cq∧QH.length+zk1 b pl<gk∧Hid (Bk4 X wr B B2 Ap c bC hs pl N b QH q))
 case atStart=>exact⟨fun _=>false,QH,Aq,cq,rfl,by have:=HI.out.num;omega,HI⟩
 case round =>
  clear HI;obtain⟨b,QH,A,cq,rfl,hgk,HS⟩:=hrel;cases QH with
  | nil =>
   have HF:=hd_ (HR.out wr (by rw[← bk_over (by have:=HS.out.st;exact this)];exact HS.out.mem.own) HS.out.mem.low)
   clear HS;go_wp2_with fail;go_end0
   exact HF.out
  | cons h Q' =>
   have hqq:zjl wr B2 96 3 (.slice A (Q'.length+1) cq) (Q'.length+1) ((h :: Q').flatMap Hav.cells):=HS.out.mem.que;have hrow:z4b wr (.slice A (Q'.length+1) cq) (h :: Q'):=hqq.row;obtain⟨-,ad,rfl,hab,s0,s1,s2⟩:=hrow.head;have hA:Below wr.heap.size wr (wr.alloc (.cells #[.string h.path,.int .i64 h.num,.string h.loc] 96)):=(Below.refl _ _).alloc (Nat.le_refl _) _;obtain⟨Ar,mr,hlk,hrw,hru,-⟩:=(HS.out.mem.com.keep (fun x hx _=>hA.block x (Nat.lt_of_lt_of_le hx HS.out.mem.b2))).look h.loc;have hpop:Bk3 X wr B B2 Ap c bC pl b (h :: Q') (.slice (some ad) (Q'.length+1) cq):=HS.out.mem;have hqlt:=hqq.lt;have HS5:Hid (Bk5 X (wr.alloc (.cells #[.string h.path,.int .i64 h.num,.string h.loc] 96)) B B2 Ap c bC wr.heap.size hs pl N b Q' (.slice (if cq=1 then some ad else some ⟨ad.block,ad.off+3,none⟩) Q'.length (cq - 1)) h Ar mr 0):=hd_
    ⟨(hpop.pop).under hA hBB,by have:=HS.out.st;rw[List.map_cons] at this;exact bk_pop this,by have:=HS.out.num;rw[List.length_cons] at this;omega,z0l wr _ _,HS.out.mem.b2,hrw,hru,by
     intro e;have hlt:ad.block<wr.heap.size:=hab;split at e
     ·injection e with e;omega
     ·injection e with e
      have e':ad.block=wr.heap.size:=e;omega⟩
   have hz:(0:Int)<((Q'.length+1:Nat):Int):=by omega
   have hgk2:Q'.length+zk1 b pl+1<gk:=by rw[List.length_cons] at hgk;omega
   have HLK:=hd_ hlk;clear hA hlk hrw hru hpop hqlt hqq hrow HS hgk;dsimp only [List.length_cons]
   go_upto_region 20 with fail;have hl:=HLK.out _ rfl;generalize (if cq=1 then some ad else some ⟨ad.block,ad.off+3,none⟩)=A1 at HS5 ⊢;generalize cq - 1=c1 at HS5 ⊢;generalize wr.heap.size=g13 at HS5 ⊢;generalize wr.alloc (.cells #[.string h.path,.int .i64 h.num,.string h.loc] 96)=W1 at HS5 hl ⊢;clear HLK hab s0 s1 s2 hz;have d2:W1.cell? ⟨g13,2,none⟩=some (.string h.loc):=HS5.out.box.cell 2;obtain⟨L,hL⟩:∃ L,zk9 pl pl.length h.loc=L:=⟨_,rfl⟩;have hLb:L.length≤1000000:=by rw[← hL];exact Nat.le_trans (zkb _ _ _) hn
   have HL:=hd_ hL;rw[hL] at hl;clear hL;go_wp2_with fail;clear hl d2;go_loopw [8,83] (fun q i wq=>∃(b:ByteArray→Bool) (QH:List Hav) (A:Option Addr) (cq k:Nat),q=.slice A QH.length cq∧i=.int .i64 k∧k≤L.length∧QH.length+zk1 b pl+1<gk∧Hid (Bk5 X wq B B2 Ap c bC g13 hs pl N b QH q h Ar mr k)) (fun _ i _=>L.length - (intOf i).toNat)
   case atStart=>exact⟨b,Q',_,_,0,rfl,rfl,Nat.zero_le _,hgk2,HS5⟩
   case round =>
    clear HS5;obtain⟨b,QH,A,cq,k,rfl,rfl,hk,hgk,HJ⟩:=hrel;by_cases hlt:k<L.length
    ·have HLT2:=hd_ hlt;have hlt2:k<(zk9 pl pl.length h.loc).length:=by rw[HL.out];exact hlt
     obtain⟨i,hi,hki,hdl,hde⟩:=com_at hlt2;obtain⟨ad2,rfl,hab,sI⟩:=HJ.out.at_ hlt2;rw[hki] at sI;have HKI:Hid (∀ hh:k<(zk9 pl pl.length h.loc).length,(zk9 pl pl.length h.loc)[k]=i):=hd_ (fun _=>hki);have HLT:=hd_ hlt2;have HDL:=hd_ hdl;have HDE:=hd_ hde;obtain rfl:=hAp (by omega)
     obtain⟨hsy,-⟩:=HJ.out.mem.at3 hi;have HSY:=hd_ hsy;clear hki hlt2 hdl hde hab hsy;go_upto_region 23 with fail;refine bkR23 _ (by kernel_rfl) _ wr g pl.length c i g13 (zek b pl[i]) h.path HSY.out (HJ.out.box.cell 0) hi ?_
     intro ga gb gf gg gh gi gj gm gn gt gu gx gy aa w2 hb2;have HJ2:=hd_ (HJ.out.under hb2 hBB);have HPA:=hd_ (zem b pl[i]);have HMS:=hd_ (zeo b pl[i]);clear HSY HJ hb2 sI;cases hbb:(decide ((zek b pl[i]).path=h.path) || z3o (zek b pl[i]).kind) with
     | true =>
      have HN:=hd_ (HJ2.out.skip HLT.out hi (HKI.out _) (by
       rcases Bool.or_eq_true_iff.1 hbb with e | e
       ·exact .inl (by rw[← HPA.out];exact of_decide_eq_true e)
       ·rw[HMS.out] at e;rcases Bool.or_eq_true_iff.1 e with e | e
        ·exact .inr (.inr e)
        ·exact .inr (.inl e)))
      clear hbb;go_wp2_with fail;go_roundw
      case rel=>exact⟨b,QH,A,cq,k+1,rfl,by go_num,by have:=HLT2.out;omega,hgk,HN⟩
      case measure=>have:=HLT2.out;simp [intOf];omega
     | false =>
      obtain⟨e1,e2⟩:=(Bool.or_eq_false_iff).1 hbb;have hp:pl[i].path≠h.path:=by
       rw[← HPA.out];exact of_decide_eq_false e1
      rw[HMS.out] at e2;obtain⟨e3,e4⟩:=(Bool.or_eq_false_iff).1 e2;have HP:=hd_ hp;have HE3:=hd_ e3;have HE4:=hd_ e4;have HM3:=hd_ (HJ2.out.mem.mark_ HSRT.out hi hg hB hX2 hC);obtain⟨⟨y0,-,-,-,-⟩,fz⟩:=HJ2.out.mem.at3 hi;clear hbb e1 e2 e3 e4 hp;go_upto_region 25 with fail;clear y0 fz;obtain⟨⟨-,-,-,y3,-⟩,-⟩:=HM3.out.at3 hi;rw[(zen _ _).2.1] at y3;by_cases hf:pl[i].frm=z2l
      ·obtain⟨HN,hnum⟩:=HJ2.out.markN HOK.out HSRT.out HFRM.out hB hg hX2 hC HLT.out hi (HKI.out _) HDL.out HDE.out HP.out HE4.out HE3.out hf;have HN:=hd_ HN;obtain⟨s1,s2⟩:=z3v hf;clear HM3 hf;generalize w2.setCell ⟨g,i * 5,none⟩ (.int .i64 5)=W3 at HN y3 ⊢;generalize setB b pl[i].path=b2 at HN hnum;generalize pl[i].frm=fr at y3 s1 s2;go_wp2_with fail;go_roundw
       case rel=>exact⟨b2,QH,A,cq,k+1,rfl,by go_num,by have:=HLT2.out;omega,by omega,HN⟩
       case measure=>have:=HLT2.out;simp [intOf];omega
      ·have HF:=hd_ hf;obtain⟨s1,s2⟩:=z3w hf;have HY:=hd_ (fun(A':Option Addr) (c':Nat) (wx:World) h1 h2 h3=>HJ2.out.markY (A':=A') (c':=c') (wx:=wx) HOK.out HSRT.out HFRM.out hB hg hX2 hC HLT.out hi (HKI.out _) HDL.out HDE.out HP.out HE4.out HE3.out HF.out h1 h2 h3);have HQL:=hd_ (show QH.length≤1000000 by have:=HJ2.out.num;omega)
       obtain⟨⟨-,y1,-,-,-⟩,-⟩:=HM3.out.at3 hi;rw[zem] at y1;have HY1:=hd_ y1;have HY3:=hd_ y3;have HI2:=hd_ hi;clear hf y1;generalize w2.setCell ⟨g,i * 5,none⟩ (.int .i64 5)=W3 at HM3 HY HY1 HY3 y3 ⊢;generalize setB b pl[i].path=b2 at HY HM3;generalize pl[i].frm=fr at HY y3 HY3 s1 s2;generalize pl[i].path=pt at HY HY1;go_upto_region 26 with fail;refine bkR26 _ (by kernel_rfl) _ W3 g pl.length c i QH.length cq B2 A (QH.flatMap Hav.cells) pt fr HM3.out.que HY1.out HY3.out HI2.out HM3.out.b2 (by omega) (by have:=HQL.out;omega) ?_
       intro ar au aw ax ay az aA aB aC aD aE aF aG aH A' c' w4 HO;obtain⟨HN,hnum⟩:=HY.out A' c' w4 HO.out.1 HO.out.2.1 HO.out.2.2;have HN:=hd_ HN;clear HY HO HM3;go_wp2_with fail;go_roundw
       case rel=>exact⟨b2,QH++[⟨pt,0,fr⟩],A',c',k+1,by rw[List.length_append];rfl,by go_num,by have:=HLT2.out;omega,by rw[List.length_append];simp;omega,HN⟩
       case measure=>have:=HLT2.out;simp [intOf];omega
    ·have hke:k=L.length:=by omega
     have HF:Hid (Bk4 X wr B B2 Ap c bC hs pl N b QH (.slice A QH.length cq)):=hd_ ⟨HJ.out.mem,bk_end HOK.out HJ.out.st (fun x hx hd hl=>by
      have he:=HL.out;obtain⟨i,hi,hx2⟩:=zkc hx hd;rw[hl] at hi;unfold prF;rw[he,hke,List.take_length,← he];exact List.mem_filterMap.2 ⟨i,hi,hx2⟩),HJ.out.num⟩
     clear HJ hke hk;go_wp2_with fail;go_roundg (QH.length+zk1 b pl+1)
     case measure=>exact hgk
     case rel=>exact⟨b,QH,A,cq,rfl,by omega,HF⟩
def zkm (pl:List Syn)(h:Hav):Bool:=match stF pl pl.length h.path with
 | none=>true
 | some i=>((pl[i]?).map fun x=>z3o x.kind).getD true
theorem zkn {pl:List Syn}(hs:z6d pl)(h:Hav):zkm pl h=true↔zer pl (fun _=>false) h.path:=by
 unfold zkm zer;rw[stF_get hs];cases e:stF pl pl.length h.path with
 | none=>simp
 | some i =>
  obtain⟨-,hi,-⟩:=zke (Nat.le_refl _) e;rw[Option.bind_some,List.getElem?_eq_getElem hi];simp [List.getElem?_eq_getElem hi]
structure Bk2 (w wr:World)(pl:List Syn)(hs:List Hav)(k:Nat)(QH:List Hav)(qv:Value):Prop where
 own:wr.ownsRow w.heap.size 96 3 qv QH.length (QH.flatMap Hav.cells)
 low:Below w.heap.size w wr
 is:QH=(hs.take k).filter (zkm pl)
theorem Bk2.under {w wr wx:World}{pl:List Syn}{hs:List Hav}{k:Nat}{QH:List Hav}{qv:Value}(h:Bk2 w wr pl hs k QH qv)(hb:Below wr.heap.size wr wx):Bk2 w wx pl hs k QH qv:=⟨z0n h.own hb,z0r h.low hb,h.is⟩
theorem Bk2.skip {w wr:World}{pl:List Syn}{hs:List Hav}{k:Nat}{QH:List Hav}{qv:Value}(h:Bk2 w wr pl hs k QH qv)(hk:k<hs.length)(e:zkm pl hs[k]=false):Bk2 w wr pl hs (k+1) QH qv:=
 ⟨h.own,h.low,by rw[List.take_succ_eq_append_getElem hk,List.filter_append,← h.is];simp [e]⟩
theorem Bk2.push {w wr wx:World}{pl:List Syn}{hs:List Hav}{k:Nat}{QH:List Hav}{qv:Value}{A':Option Addr}{c':Nat}(h:Bk2 w wr pl hs k QH qv)(hk:k<hs.length)(e:zkm pl hs[k]=true)
  (ho:wx.ownsRow w.heap.size 96 3 (.slice A' (QH.length+1) c') (QH.length+1) (QH.flatMap Hav.cells++hs[k].cells)) (hg:wr.grownBy wx qv.ownBlock):Bk2 w wx pl hs (k+1) (QH++[hs[k]]) (.slice A' (QH.length+1) c'):=by
 refine⟨?_,h.low.grown hg h.low.size (fun x hx=>(h.own.lt x hx).1),by rw[List.take_succ_eq_append_getElem hk,List.filter_append,← h.is];simp [e]⟩
 rw[List.length_append,List.flatMap_append];have e2:[hs[k]].flatMap Hav.cells=hs[k].cells:=by simp
 rw[e2];exact ho
theorem Bk2.len {w wr:World}{pl:List Syn}{hs:List Hav}{k:Nat}{QH:List Hav}{qv:Value}(h:Bk2 w wr pl hs k QH qv):QH.length≤hs.length:=by
 rw[h.is];exact Nat.le_trans (List.length_filter_le _ _) (by rw[List.length_take];exact Nat.min_le_right _ _)
theorem zko (pl:List Syn):zel (fun _=>false) pl=pl:=by
 unfold zel;have:(zek fun _=>false)=id:=by funext x;rfl
 rw[this,List.map_id]
theorem zkp (b:ByteArray→Bool)(pl:List Syn):zk1 b pl≤pl.length:=List.length_filter_le _ _
theorem bkT9 (T:Code)(hT:Tryz.f47.body.bind (zi2 9)=some T)(R:Ending→World→Prop)(X w:World)(B g c bS bC:Nat)(hs:List Hav)(pl:List Syn)(Ah Ap:Option Addr)(ch:Nat)(hAp:0<pl.length→Ap=some ⟨g,0,none⟩)
  (hI:Bk1 X w bS bC (stF pl pl.length) (zk9 pl pl.length)) (hO:zjf w B (.slice Ap pl.length c) pl) (hL:Below B X w) (hH:z4b w (.slice Ah hs.length ch) hs) (hOk:zf6 hs) (hsrt:z6d pl) (hfrm:∀ x∈pl,x.frm=zjp hs x.path)
  (hB:B≤g) (hg:g<X.heap.size) (hn:pl.length≤2000) (hhn:hs.length≤10000)
  (hR:∀ w',zjf w' B (.slice Ap pl.length c) (zel (blB hs pl) pl)→Below B X w'→R (.returned (.tuple #[])) w')
  (u2 u3 u6 u7 u8 u9 gz gA gC gD gE gF gG gH gI gJ gK gL gM gN gO gP gQ gR gT gV gW gX gY gZ i6 i7 i8 ia ib ic ie ig ii ij ik il im io ip iq ir iu iv iw ix iy iz iA iB iC iD iE iF iG iH iI iJ iK iL iM iN iO iP iQ iR iS iT iU iV iW iX iY iZ j0 j1 j2 j5 j6 j7 j8 j9 jb jd jf jg jh ji jj jk jl bB bD bE bF bG bH bI bJ bK bL bM bN bO bP bQ bT bU bV bW bX bY bZ cj ck cn cx cy:Value):
  T.wp prog (bodyPost prog Tryz.f47 R) ⟨#[.slice Ah hs.length ch,.slice Ap pl.length c,u2,u3,.map (some bS),.map (some bC),u6,u7,u8,u9,gz,gA,gC,gD,gE,gF,gG,gH,gI,gJ,gK,gL,gM,gN,gO,gP,gQ,gR,gT,gV,gW,gX,gY,gZ,i6,i7,i8,ia,ib,ic,ie,ig,ii,ij,ik,il,im,io,ip,iq,ir,iu,iv,iw,ix,iy,iz,iA,iB,iC,iD,iE,iF,iG,iH,iI,iJ,iK,iL,iM,iN,iO,iP,iQ,iR,iS,iT,iU,iV,iW,iX,iY,iZ,j0,j1,j2,j5,j6,j7,j8,j9,jb,jd,jf,jg,jh,ji,jj,jk,jl,bB,bD,bE,bF,bG,bH,bI,bJ,bK,bL,bM,bN,bO,bP,bQ,bT,bU,bV,bW,bX,bY,bZ,cj,ck,cn,cx,cy],[]⟩ w:=by
 simp only[Tryz.f47,Option.bind_some,zi2,zi1] at hT
 simp at hT
 subst hT;have HI:=hd_ hI;have HO:=hd_ hO;have HH:=hd_ hH;have HL:=hd_ hL;have HOK:=hd_ hOk;have HSRT:=hd_ hsrt;have HFRM:=hd_ hfrm;have HR:=hd_ hR;have HXW:=hd_ (hI.low.size);have HGW:=hd_ hg;have HS0:Hid (Bk2 w w pl hs 0 [] (.slice none 0 0)):=hd_ ⟨World.ownsRow_nil _ _ _ _,Below.refl _ _,rfl⟩;clear hI hO hL hH hOk hsrt hfrm hR;go_wp2_with fail;go_loopw [8,45] (fun q i wq=>∃(k:Nat) (QH:List Hav) (A:Option Addr) (cq:Nat),q=.slice A QH.length cq∧i=.int .i64 k∧k≤hs.length∧Hid (Bk2 w wq pl hs k QH q)) (fun _ i _=>hs.length - (intOf i).toNat)
 case atStart=>exact⟨0,[],none,0,rfl,rfl,Nat.zero_le _,HS0⟩
 case round =>
  obtain⟨k,QH,A,cq,rfl,rfl,hk,HJ⟩:=hrel;clear HS0;by_cases hlt:k<hs.length
  ·have HLT:=hd_ hlt;have hHX:z4b wr (.slice Ah hs.length ch) hs:=Row.below HH.out HJ.out.low;obtain⟨ad,rfl,hab,s0,s1,s2⟩:=z4b.at_ hHX hlt;have HSK:=hd_ (HJ.out.skip hlt);have HPU:=hd_ (fun(A':Option Addr) (c':Nat) (wx:World) (e:zkm pl hs[k]=true) (W:World) (hb:Below wr.heap.size wr W) ho hg=>(HJ.out.under hb).push (A':=A') (c':=c') (wx:=wx) hlt e ho hg);have HSP:Hid (zkm pl hs[k]=match stF pl pl.length hs[k].path with | none=>true | some i=>((pl[i]?).map fun x=>z3o x.kind).getD true):=hd_ rfl
   have HQL:=hd_ (show QH.length≤10000 from Nat.le_trans HJ.out.len hhn);generalize hs[k]=h at s0 s1 s2 HSK HPU HSP;have hA:Below wr.heap.size wr (wr.alloc (.cells #[.string h.path,.int .i64 h.num,.string h.loc] 96)):=(Below.refl _ _).alloc (Nat.le_refl _) _;have hbx:=z0l wr [.string h.path,.int .i64 h.num,.string h.loc] 96;have hst:z2f Value.string natV (wr.alloc (.cells #[.string h.path,.int .i64 h.num,.string h.loc] 96)) bS (stF pl pl.length):=z2f.below (z2f.below HI.out.st HJ.out.low) hA;have hlk:=z2f.lookup hst (z2d underlying9) underlying162 (z:=.int .i64 0) (by rfl) h.path true
   have HA:=hd_ hA;have HBX:=hd_ hbx;have hown1:zjf (wr.alloc (.cells #[.string h.path,.int .i64 h.num,.string h.loc] 96)) B (.slice Ap pl.length c) pl:=z0n (z0n HO.out HJ.out.low) hA;have HOX:=hd_ hown1;have HQR:=hd_ (HJ.out.under hA).own;clear hHX hbx hst hown1 hab hlt;cases hsf:stF pl pl.length h.path with
   | none =>
    rw[hsf] at hlk;have hlk2:(Instr.lookup 162 (.map (some bS)) (.string h.path) true).run prog (wr.alloc (.cells #[.string h.path,.int .i64 h.num,.string h.loc] 96))=.ok (.tuple #[.int .i64 0,.bool false]) (wr.alloc (.cells #[.string h.path,.int .i64 h.num,.string h.loc] 96)):=hlk;have HYES:Hid (zkm pl h=true):=hd_ (by rw[HSP.out,hsf])
    clear hlk hsf;go_upto_region 13 with fail;generalize wr.alloc (.cells #[.string h.path,.int .i64 h.num,.string h.loc] 96)=W1 at HA HBX hlk2 HOX HQR ⊢;clear s0 s1 s2 hA;obtain⟨d0,d1,d2⟩:=z3s (x:=h) HBX.out;have hrow:=z0i W1 [.string h.path,.int .i64 h.num,.string h.loc] 96 3 1 rfl (by unfold maxLen;omega) W1.heap.size rfl
    have hown2:=zcl HQR.out (.cells #[.string h.path,.int .i64 h.num,.string h.loc] 96);have HQ2:=hd_ hown2;have HQL2:=HQL.out;have hsz:w.heap.size≤(W1.alloc (.cells #[.string h.path,.int .i64 h.num,.string h.loc] 96)).heap.size:=by have:=HJ.out.low.size;have:=HA.out.size;simp;omega
    clear hown2;go_wp2_with (at_builtin;refine z0j rfl rfl z54 HQ2.out rfl hrow rfl (z55 h) (by omega) (by unfold maxLen;omega) hsz ?_;intro A' c' w2 hown hgr hob)
    have HN:=hd_ (HPU.out A' c' w2 HYES.out (W1.alloc (.cells #[.string h.path,.int .i64 h.num,.string h.loc] 96)) (z0r HA.out ((Below.refl _ _).alloc (Nat.le_refl _) _)) hown hgr);clear hown hgr hob hrow hlk2 d0 d1 d2;go_wp2_with fail;go_roundw
    case rel=>exact⟨k+1,QH++[h],A',c',by rw[List.length_append];rfl,by go_num,by have:=HLT.out;omega,HN⟩
    case measure=>have:=HLT.out;simp [intOf];omega
   | some i =>
    rw[hsf] at hlk;have hlk2:(Instr.lookup 162 (.map (some bS)) (.string h.path) true).run prog (wr.alloc (.cells #[.string h.path,.int .i64 h.num,.string h.loc] 96))=.ok (.tuple #[.int .i64 i,.bool true]) (wr.alloc (.cells #[.string h.path,.int .i64 h.num,.string h.loc] 96)):=hlk;obtain⟨-,hi,-⟩:=zke (Nat.le_refl _) hsf;obtain rfl:=hAp (by omega)
    have HSB:Hid (zkm pl h=z3o pl[i].kind):=hd_ (by rw[HSP.out,hsf];simp [List.getElem?_eq_getElem hi])
    obtain⟨hsy,-⟩:=zjf.cell HOX.out hi;generalize pl[i]=y at HSB hsy;clear hlk hsf;go_upto_region 14 with fail;generalize wr.alloc (.cells #[.string h.path,.int .i64 h.num,.string h.loc] 96)=W1 at HA HBX hsy HOX HQR ⊢;clear s0 s1 s2 hA hlk2;obtain⟨y0,y1,y2,y3,y4⟩:=hsy;have HST:=hd_ (z3u y W1);cases hb:z3o y.kind with
    | false =>
     rw[hb] at HST HSB;have HNO:=hd_ (HSK.out HSB.out);clear hb;go_wp2_with fail;refine HST.out.mono ?_;rintro e w2 ⟨rfl,hb2⟩;dsimp only;have HN:=hd_ (HNO.out.under (z0r HA.out hb2));clear hb2 y0 y1 y2 y3 y4;go_wp2_with fail;go_roundw
     case rel=>exact⟨k+1,QH,A,cq,rfl,by go_num,by have:=HLT.out;omega,HN⟩
     case measure=>have:=HLT.out;simp [intOf];omega
    | true =>
     rw[hb] at HST HSB;clear hb;go_wp2_with fail;refine HST.out.mono ?_;rintro e w2 ⟨rfl,hb2⟩;dsimp only;have HA2:=hd_ (z0r HA.out hb2);have HBX2:=hd_ (HBX.out.below hb2 HBX.out.lt);have HQR2:=hd_ (z0n HQR.out hb2);clear hb2 y0 y1 y2 y3 y4;obtain⟨d0,d1,d2⟩:=z3s (x:=h) HBX2.out;have hrow:=z0i w2 [.string h.path,.int .i64 h.num,.string h.loc] 96 3 1 rfl (by unfold maxLen;omega) w2.heap.size rfl
     have hown2:=zcl HQR2.out (.cells #[.string h.path,.int .i64 h.num,.string h.loc] 96);have HQ2:=hd_ hown2;have HQL2:=HQL.out;have hsz:w.heap.size≤(w2.alloc (.cells #[.string h.path,.int .i64 h.num,.string h.loc] 96)).heap.size:=by have:=HJ.out.low.size;have:=HA2.out.size;simp;omega
     clear hown2;go_wp2_with (at_builtin;refine z0j rfl rfl z54 HQ2.out rfl hrow rfl (z55 h) (by omega) (by unfold maxLen;omega) hsz ?_;intro A' c' w3 hown hgr hob)
     have HN:=hd_ (HPU.out A' c' w3 HSB.out (w2.alloc (.cells #[.string h.path,.int .i64 h.num,.string h.loc] 96)) (z0r HA2.out ((Below.refl _ _).alloc (Nat.le_refl _) _)) hown hgr);clear hown hgr hob hrow d0 d1 d2;go_wp2_with fail;go_roundw
     case rel=>exact⟨k+1,QH++[h],A',c',by rw[List.length_append];rfl,by go_num,by have:=HLT.out;omega,HN⟩
     case measure=>have:=HLT.out;simp [intOf];omega
  ·have hke:k=hs.length:=by omega
   subst hke;have HQE:Hid (QH=hs.filter (zkm pl)):=hd_ (by have:=HJ.out.is;rw[List.take_length] at this;exact this)
   have HLW:=hd_ HJ.out.low;have HQN:=hd_ HJ.out.len;have HT:=hd_ (fun(T:Code) hT=>bkT17 T hT R X wr B w.heap.size g c bC (hs.length+pl.length) Ap hs pl hAp QH A cq ⟨⟨by rw[zko];exact z0n HO.out HJ.out.low,(HI.out.com.keep (fun x hx _=>HJ.out.low.block x hx)),HL.out.trans (HJ.out.low.mono (by have:=HXW.out;have:=HGW.out;omega)),zjl.of_own HJ.out.own,HJ.out.low.size⟩,by
    refine bk_init hs pl _ fun q=>?_;rw[HQE.out,List.mem_map];constructor
    ·rintro⟨h,hm,rfl⟩;obtain⟨m1,m2⟩:=List.mem_filter.1 hm;exact⟨h,m1,rfl,(zkn HSRT.out h).1 m2⟩
    ·rintro⟨h,m1,e,m2⟩;exact⟨h,List.mem_filter.2 ⟨m1,(zkn HSRT.out h).2 m2⟩,e⟩,by have:=zkp (fun _=>false) pl;have:=HQN.out;omega⟩ HOK.out HSRT.out HFRM.out hB hg HXW.out HI.out.leC (by omega) (by omega) HR.out)
   clear HJ;rename ∀ a w,Code.wp _ (Code.block 4 _) _ a w→_=>hk7
   have HK7:=hd_ hk7;clear hk7;go_wp2_with fail;exact HK7.out _ _ (HT.out _ (by kernel_rfl) _ _ _ _ _ _ _ _ _ _ _ _ _ _ _ _ _ _ _ _ _ _ _ _ _ _ _ _ _ _ _ _ _ _ _ _ _ _ _ _ _ _ _ _ _ _ _ _ _ _ _ _ _ _ _ _ _ _ _ _ _ _ _ _ _ _ _ _ _ _ _ _ _ _ _ _ _ _ _ _ _ _ _ _ _ _ _ _ _ _ _ _ _ _ _ _ _ _ _ _ _ _ _ _ _ _ _ _ _ _ _ _ _ _ _ _ _ _ _ _ _ _ _ _)
theorem zk8.grownMap {w w':World}{B U b bS:Nat}{f:ByteArray→List Nat}(h:zk8 w B U b f)(hg:w.grownBy w' (some bS))(hne:bS≠b)(hm:∃ es c,w.heap[bS]? = some (.map es c)):zk8 w' B U b f:=by
 obtain⟨g,h1,h2,h3,h4,h5⟩:=h;obtain⟨es,cc,hm⟩:=hm;refine⟨g,h1.grown hg (fun e=>hne (by injection e with e;exact e.symm)),fun k=>(h2 k).kept hg ?_,h3,h4,h5⟩
 by_cases hb:(zk3 g k).ownBlock=some bS
 ·exact absurd hm (fun hm=>zk6 (h2 k) hb hm)
 ·exact .inr hb
theorem zkq (hs:List Hav)(pl:List Syn)(Ah Ap:Option Addr)(ch g c B:Nat)(X:World)(hAp:0<pl.length→Ap=some ⟨g,0,none⟩)(hH:z4b X (.slice Ah hs.length ch) hs)(hO:zjf X B (.slice Ap pl.length c) pl)(hOk:zf6 hs)(hsrt:z6d pl)(hfrm:∀ x∈pl,x.frm=zjp hs x.path)
  (hB:B≤g) (hg:g<X.heap.size) (hn:pl.length≤2000) (hhn:hs.length≤10000):
  Calls prog 47 #[.slice Ah hs.length ch,.slice Ap pl.length c] X fun e w'=>e=.returned (.tuple #[])∧zjf w' B (.slice Ap pl.length c) (zel (blB hs pl) pl)∧Below B X w':=by
 have HO:=hd_ hO;have HH:=hd_ hH;have HOK:=hd_ hOk;have HSRT:=hd_ hsrt;have HFRM:=hd_ hfrm;have hmm:=@run_makeMap prog;have HI0:Hid (Bk1 X ((X.alloc (.map #[] 0)).alloc (.map #[] 0)) X.heap.size (X.heap.size+1) (stF pl 0) (zk9 pl 0)):=hd_ (by
  refine⟨((Below.refl _ _).alloc (Nat.le_refl _) _).alloc (by simp) _,(z2f.new Value.string natV X).alloc _,?_,by omega,by omega⟩
  have:=zk8.new (X.alloc (.map #[] 0)) X.heap.size;have e:(X.alloc (.map #[] 0)).heap.size=X.heap.size+1:=by simp
  rw[e] at this;exact this.upTo (by simp))
 clear hO hH hOk hsrt hfrm;go_enter func47,ntmps47;go_upto_region 2 with fail;clear hmm;try simp only[World.size_alloc]
 generalize (X.alloc (.map #[] 0)).alloc (.map #[] 0)=W0 at HI0 ⊢;go_wp2_with fail;go_loopw [20] (fun i wr=>∃ k:Nat,i=.int .i64 k∧k≤pl.length∧Hid (Bk1 X wr X.heap.size (X.heap.size+1) (stF pl k) (zk9 pl k))) (fun i _=>pl.length - (intOf i).toNat)
 case atStart=>exact⟨0,rfl,Nat.zero_le _,HI0⟩
 case round =>
  obtain⟨k,rfl,hk,HJ⟩:=hrel;clear HI0;by_cases hlt:k<pl.length
  ·have HLT:=hd_ hlt;obtain rfl:=hAp (by omega)
   obtain⟨⟨y0,y1,y2,y3,y4⟩,-⟩:=zjf.cell (z0n HO.out HJ.out.low) hlt;have HSF:=hd_ (zkd hlt);have HCN:=hd_ (comF_no hlt);have HCY:=hd_ (zka hlt);generalize pl[k]=x at y0 y1 y2 y3 y4 HSF HCN HCY;have hA:Below wr.heap.size wr (wr.alloc (.cells #[.int .i64 x.kind,.string x.path,.int .i64 x.num,.string x.frm,.string x.dst] 50)):=(Below.refl _ _).alloc (Nat.le_refl _) _;have hJ1:=HJ.out.under hA;obtain⟨w3,hup,hM3,hg3,hs3⟩:=z2f.update (w:=wr.alloc (.cells #[.int .i64 x.kind,.string x.path,.int .i64 x.num,.string x.frm,.string x.dst] 50)) hJ1.st (z2d underlying9) underlying162 x.path k;have hup2:(Instr.mapUpdate 162 (.map (some X.heap.size)) (.string x.path) (.int .i64 k)).run prog (wr.alloc (.cells #[.int .i64 x.kind,.string x.path,.int .i64 x.num,.string x.frm,.string x.dst] 50))=.ok () w3:=hup;have HX3:Hid (Blk w3 wr.heap.size 50 [.int .i64 x.kind,.string x.path,.int .i64 x.num,.string x.frm,.string x.dst]):=hd_ ((z0l wr [.int .i64 x.kind,.string x.path,.int .i64 x.num,.string x.frm,.string x.dst] 50).grown hg3 (fun e=>by injection e with e;have:=HJ.out.st.lt;omega))
   have HJ3:Hid (Bk1 X w3 X.heap.size (X.heap.size+1) (stF pl (k+1)) (zk9 pl k)):=hd_
    ⟨hJ1.low.grown hg3 hJ1.low.size (fun y e=>by injection e with e;omega),by rw[HSF.out];exact hM3,by rw[hs3];exact hJ1.com.grownMap hg3 hJ1.ne (zk7 hJ1.st),hJ1.ne,hJ1.leC⟩
   have HSZ:=hd_ HJ3.out.low.size;have hxb:=z0l wr [.int .i64 x.kind,.string x.path,.int .i64 x.num,.string x.frm,.string x.dst] 50;obtain⟨z0,z1,z2,z3,z4⟩:=z3r (x:=x) hxb;have hls:(zk9 pl k x.dst).length≤1000000:=Nat.le_trans (zkb _ _ _) (by omega)
   have HLS:=hd_ hls;clear hA hJ1 hup hM3 hg3 hs3 hxb hls HJ;go_upto_region 6 with fail;clear hup2 y0 y1 y2 y3 y4 z0 z1 z2 z3 z4;generalize wr.heap.size=g7 at HX3 ⊢;obtain⟨z0,z1,z2,z3,z4⟩:=z3r (x:=x) HX3.out;by_cases hd:x.dst=z2l
   ·obtain⟨s1,s2⟩:=z3v hd;have HN:Hid (Bk1 X w3 X.heap.size (X.heap.size+1) (stF pl (k+1)) (zk9 pl (k+1))):=hd_ (by rw[HCN.out hd];exact HJ3.out)
    clear hd;go_wp2_with fail;go_roundw
    case rel=>exact⟨k+1,by go_num,by have:=HLT.out;omega,HN⟩
    case measure=>have:=HLT.out;simp [intOf];omega
   ·obtain⟨s1,s2⟩:=z3w hd;have HCF:=hd_ (HCY.out hd);clear hd;go_upto_region 7 with fail;refine bkR7 _ (by kernel_rfl) _ X w3 g7 X.heap.size (X.heap.size+1) (stF pl (k+1)) (zk9 pl k) x k HJ3.out HX3.out HLS.out HSZ.out ?_
    intro eN eO eP eQ eR eS eT eU eV eW w4 HN;rw[← HCF.out] at HN;go_wp2_with fail;go_roundw
    case rel=>exact⟨k+1,by go_num,by have:=HLT.out;omega,HN⟩
    case measure=>have:=HLT.out;simp [intOf];omega
  ·have hke:k=pl.length:=by omega
   subst hke;have HT:=hd_ (fun(T:Code) hT=>bkT9 T hT (fun e w'=>e=.returned (.tuple #[])∧zjf w' B (.slice Ap pl.length c) (zel (blB hs pl) pl)∧Below B X w') X wr B g c X.heap.size (X.heap.size+1) hs pl Ah Ap ch hAp HJ.out (z0n HO.out HJ.out.low) (HJ.out.low.mono (by omega)) (Row.below HH.out HJ.out.low) HOK.out HSRT.out HFRM.out hB hg hn hhn (fun w' h1 h2=>⟨rfl,h1,h2⟩))
   clear HJ;rename ∀ a w,Code.wp _ (Code.seq (Code.region 9 _ _) _) _ a w→_=>hk7
   have HK7:=hd_ hk7;clear hk7;go_wp2_with fail;exact HK7.out _ _ (HT.out _ (by kernel_rfl) _ _ _ _ _ _ _ _ _ _ _ _ _ _ _ _ _ _ _ _ _ _ _ _ _ _ _ _ _ _ _ _ _ _ _ _ _ _ _ _ _ _ _ _ _ _ _ _ _ _ _ _ _ _ _ _ _ _ _ _ _ _ _ _ _ _ _ _ _ _ _ _ _ _ _ _ _ _ _ _ _ _ _ _ _ _ _ _ _ _ _ _ _ _ _ _ _ _ _ _ _ _ _ _ _ _ _ _ _ _ _ _ _ _ _ _ _ _ _ _ _ _ _)
theorem zoc (x:Int):∃ r:Nat,r<18446744073709551616∧IntKind.u64.wrap x=r:=
 ⟨(x % 18446744073709551616).toNat,by omega,by simp [IntKind.wrap,IntKind.bits,IntKind.signed];omega⟩
theorem zod (a b:Int):∃ r:Nat,r<18446744073709551616∧∀ w,Calls prog 238 #[.int .u64 a,.int .u64 b] w fun e w'=>e=.returned (.int .u64 r)∧w'=w:=by
 obtain⟨s,hs,q0⟩:=zoc (a+b);by_cases h:(2305843009213693951:Int)≤s
 ·have q1:decide ((2305843009213693951:Int)≤s)=true:=by simpa using h
  obtain⟨x,hx,q2⟩:=zoc ((s:Int) - 2305843009213693951);clear h;by_cases h:(2305843009213693951:Int)≤x
  ·have q3:decide ((2305843009213693951:Int)≤x)=true:=by simpa using h
   obtain⟨y,hy,q4⟩:=zoc ((x:Int) - 2305843009213693951);clear h;refine⟨y,hy,fun w=>?_⟩;go_enter func238,ntmps238;go_wp2_with fail;go_ret;exact⟨rfl,rfl⟩
  ·have q3:decide ((2305843009213693951:Int)≤x)=false:=by simpa using h
   clear h;refine⟨x,hx,fun w=>?_⟩;go_enter func238,ntmps238;go_wp2_with fail;go_ret;exact⟨rfl,rfl⟩
 ·have q1:decide ((2305843009213693951:Int)≤s)=false:=by simpa using h
  clear h;refine⟨s,hs,fun w=>?_⟩;go_enter func238,ntmps238;go_wp2_with fail;go_ret;exact⟨rfl,rfl⟩
theorem rMul_ex (a b:Nat)(ha:a<18446744073709551616)(hb:b<18446744073709551616):∃ r:Nat,r<18446744073709551616∧∀ w,Calls prog 239 #[.int .u64 a,.int .u64 b] w fun e w'=>e=.returned (.int .u64 r)∧w'=w:=by
 have HM:=hd_ (fun w=>Tryz.bits_Mul64 a b ha hb w);generalize a * b / 18446744073709551616=hi at HM;generalize a * b % 18446744073709551616=lo at HM;obtain⟨r,hr,hP⟩:=zod (bits .and .u64 lo 2305843009213693951) (bits .or .u64 (IntKind.u64.wrap (hi * 8)) (lo / 2305843009213693952));have HP:=hd_ hP;clear hP;refine⟨r,hr,fun w=>?_⟩;go_enter func239,ntmps239;go_wp2_with fail;refine (HM.out _).mono ?_;rintro e w' ⟨rfl,rfl⟩;dsimp only;go_wp2_with fail;refine (HP.out _).mono ?_;rintro e w' ⟨rfl,rfl⟩;dsimp only;go_wp2_with fail;go_ret;exact⟨rfl,rfl⟩
theorem zoe (l:List UInt8)(v:Value)(w:World)(hb:Bytes w v l):
  Calls prog 210 #[v] w fun e w'=>(∃ r:Nat,r<18446744073709551616∧e=.returned (.int .u64 r))∧Below w.heap.size w w':=by
 obtain⟨A,c,rfl,hcc,hmm,-⟩:=id hb;have HB:=hd_ hb;unfold maxLen at hmm;clear hb;go_enter func210,ntmps210;go_wp2_with fail;go_loopw [3,4] (fun u i wr=>∃ k s:Nat,i=.int .i64 k∧u=.int .u64 s∧k≤l.length∧Hid (s<18446744073709551616∧Below w.heap.size w wr)) (fun _ i _=>l.length - (intOf i).toNat)
 case atStart=>exact⟨0,0,rfl,rfl,Nat.zero_le _,hd_ ⟨by decide,Below.refl _ _⟩⟩
 case round =>
  obtain⟨k,s,rfl,rfl,hk,HI⟩:=hrel;by_cases hlt:k<l.length
  ·obtain⟨ad,rfl,hab,x0⟩:=Bytes.at_ (HB.out.below HI.out.2) hlt;generalize l[k].toNat=xn at x0;obtain⟨m,hm,hM⟩:=rMul_ex s 747382712868975713 HI.out.1 (by decide)
   obtain⟨x1,hx1,q1⟩:=zoc xn;obtain⟨x2,hx2,q2⟩:=zoc ((x1:Int)+1);obtain⟨r,hr,hP⟩:=zod m x2;have HM:=hd_ hM;have HP:=hd_ hP;have HRR:=hd_ hr;have hzk:(k:Int)<(l.length:Int):=by omega
   have HLT:=hd_ hlt;clear hM hP hr hm hx1 hx2 hab hlt;go_upto_region 5 with fail;go_quiet ((first | (go_at_call 239;exact Calls.quiet_of_same (HM.out _)) | (go_at_call 238;exact Calls.quiet_of_same (HP.out _))))
   clear q1 q2 x0;go_wp2_with fail;go_roundw
   case rel=>exact⟨k+1,r,by go_num,rfl,by have:=HLT.out;omega,hd_ ⟨HRR.out,z0p HI.out.2 _⟩⟩
   case measure=>have:=HLT.out;simp [intOf];omega
  ·have hge:¬((k:Int)<(l.length:Int)):=by omega
   have HF:=hd_ HI.out;clear HI;go_wp2_with fail;go_ret;exact⟨⟨s,HF.out.1,rfl⟩,HF.out.2⟩
theorem rOf_any (l:List UInt8)(v:Value)(w:World)(hb:Bytes w v l):
  Calls prog 162 #[v] w fun e w'=>(∃ r:Nat,e=.returned (.agg #[.int .u64 r,.int .i64 l.length]))∧Below w.heap.size w w':=by
 obtain⟨A,c,rfl,hcc,hmm,-⟩:=id hb;have hB:=z0l w [.int .u64 0,.int .i64 0] 88;have hA:Below w.heap.size w (w.alloc (.cells #[.int .u64 0,.int .i64 0] 88)):=(Below.refl _ _).alloc (Nat.le_refl _) _;have HS:=hd_ (zoe l (.slice A l.length c) _ (Row.below hb hA));have HA:=hd_ hA;have HB:=hd_ hB;clear hb hA hB;unfold maxLen at hmm;go_enter func162,ntmps162;go_upto_region 1 with fail;generalize w.alloc (.cells #[.int .u64 0,.int .i64 0] 88)=W at HS HB HA ⊢;go_wp2_with fail;refine HS.out.mono ?_;rintro e w2 ⟨⟨r,hr,rfl⟩,hb⟩;dsimp only;have HX:=hd_ (HB.out.below hb HB.out.lt);have HA2:=hd_ (z0r HA.out hb);clear hb HS hr;have c0:w2.cell? ⟨w.heap.size,0,none⟩=some (.int .u64 0):=HX.out.cell 0;have c1:w2.cell? ⟨w.heap.size,1,none⟩=some (.int .i64 0):=HX.out.cell 1;have f0:w2.frozen? ⟨w.heap.size,0,none⟩=false:=HX.out.frozen 0;have f1:w2.frozen? ⟨w.heap.size,1,none⟩=false:=HX.out.frozen 1;have HR:=hd_ ((HX.out.set_ 0 (.int .u64 (r:Int))).set_ 1 (.int .i64 (l.length:Int)));have HA3:=hd_ ((HA2.out.setCell (p:=⟨w.heap.size,0,none⟩) (Nat.le_refl _) (.int .u64 (r:Int))).setCell (p:=⟨w.heap.size,1,none⟩) (Nat.le_refl _) (.int .i64 (l.length:Int)));go_wp2_with fail;have r0:=HR.out.cell 0;have r1:=HR.out.cell 1;exact bodyPost_ret (v:=.agg #[.int .u64 (r:Int),.int .i64 (l.length:Int)]) (by simp at r0 r1;simp [results,results162,go_sem,r0,r1]) rfl ⟨⟨r,rfl⟩,HA3.out⟩
