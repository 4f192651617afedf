/- A part of the proof. -/
import Derived.Test.YtegeboijhifmcaaGreatDoorMgw22
import Derived.Test.YtegeboijhifmcaaGreatDoorMgw25
import Derived.Test.YtegeboijhifmcaaGreatDoorMgw18
set_option linter.unusedVariables false
set_option linter.unusedSimpArgs false
set_option maxHeartbeats 4000000
set_option maxRecDepth 100000
namespace Go.Proofs.YtegeboijhifmcaaGreatDoor
open Go.Proofs.Tryz
open Go.RowKit
theorem zhh (a b:ByteArray)(w:World):Calls prog 211 #[.string a,.string b] w fun e w'=>e=.returned (.int .i64 (Lib.compareBytes a.data.toList b.data.toList))∧w=w':=
 (Tryz.strings_Compare a b w).mono fun e w' ⟨h1,h2⟩=>⟨h1,h2.symm⟩
def zhi (ps qs:List (List UInt8))(k:Nat):Prop:=zh8 (ps.drop k) (qs.drop k)=zh8 ps qs
theorem zhj {ps qs:List (List UInt8)}{k:Nat}(h1:k<ps.length)(h2:k<qs.length)(h:zhi ps qs k):(Lib.compareBytes ps[k] qs[k]=0→zhi ps qs (k+1))∧(Lib.compareBytes ps[k] qs[k]≠0→zh8 ps qs=Lib.compareBytes ps[k] qs[k]):=by
 unfold zhi at h ⊢
 rw[List.drop_eq_getElem_cons h1,List.drop_eq_getElem_cons h2,zh8] at h;refine⟨fun h0=>?_,fun h0=>?_⟩
 ·rw[if_pos h0] at h;exact h
 ·rw[if_neg h0] at h;exact h.symm
theorem zhk {ps qs:List (List UInt8)}{k:Nat}(h:zhi ps qs k)(hk:k≤ps.length)(hk2:k≤qs.length)(he:k=ps.length∨k=qs.length):zh8 ps qs=if ps.length<qs.length then -1 else if qs.length<ps.length then 1 else 0:=by
 unfold zhi at h;rw[← h];rcases he with rfl | rfl
 ·rw[List.drop_length];by_cases hq:ps.length<qs.length
  ·rw[if_pos hq,List.drop_eq_getElem_cons hq];rfl
  ·have:ps.length=qs.length:=by omega
   rw[if_neg hq,if_neg (by omega),this,List.drop_length];rfl
 ·rw[List.drop_length];by_cases hq:qs.length<ps.length
  ·rw[if_neg (by omega),if_pos hq,List.drop_eq_getElem_cons hq];rfl
  ·have:ps.length=qs.length:=by omega
   rw[if_neg (by omega),if_neg hq,← this,List.drop_length];rfl
theorem zhl (ps qs:List (List UInt8))(g1 g2:Nat)(w:World)(hp:z8k w g1 0 ps)(hq:z8k w g2 0 qs)(h1:ps.length≤2000001)(h2:qs.length≤2000001):
  Calls prog 212 #[.slice (some ⟨g1,0,none⟩) ps.length ps.length,.slice (some ⟨g2,0,none⟩) qs.length qs.length] w fun e w'=>e=.returned (.int .i64 (zh8 ps qs))∧Below w.heap.size w w':=by
 have HP:=hd_ hp;have HQ:=hd_ hq;have HC:=hd_ (fun a b X=>zhh a b X);clear hp hq;go_enter func212,ntmps212;go_wp2_with fail;go_loopw [5] (fun s wr=>∃ k:Nat,s=.int .i64 k∧k≤ps.length∧k≤qs.length∧Hid (zhi ps qs k∧Below w.heap.size w wr)) (fun s _=>ps.length - (intOf s).toNat)
 case atStart=>exact⟨0,rfl,Nat.zero_le _,Nat.zero_le _,rfl,Below.refl _ _⟩
 case round =>
  obtain⟨k,rfl,hk,hk2,HI⟩:=hrel;by_cases hlt:k<ps.length
  ·by_cases hlt2:k<qs.length
   ·have hx:wr.cell? ⟨g1,k,none⟩=some (.string (baL ps[k])):=by
     have h:=HP.out k hlt;rw[Nat.zero_add] at h;exact z04 h HI.out.2 (z03 h)
    have hy:wr.cell? ⟨g2,k,none⟩=some (.string (baL qs[k])):=by
     have h:=HQ.out k hlt2;rw[Nat.zero_add] at h;exact z04 h HI.out.2 (z03 h)
    have HN:=hd_ (zhj hlt hlt2 HI.out.1);have z1:(k:Int)<(ps.length:Int):=by omega
    have z2:(k:Int)<(qs.length:Int):=by omega
    have d1:decide (k<ps.length)=true:=by simp;omega
    have d2:decide (k<qs.length)=true:=by simp;omega
    generalize ps[k]=x at hx HN;generalize qs[k]=y at hy HN;go_wp2_with fail;go_quiet ((go_at_call 211;exact z3k (zhh _ _ _)))
    clear hx hy d1 d2;have HB:Hid (Below w.heap.size w (wr.drewN nq)):=hd_ (z0p HI.out.2 nq);generalize wr.drewN nq=wz at HB ⊢;rw[z6w,z6w];by_cases h0:Lib.compareBytes x y=0
    ·have HA:=hd_ (HN.out.1 h0);rw[h0];clear h0 HN;go_wp2_with fail;go_roundw
     case rel=>exact⟨k+1,by go_num,by omega,by omega,HA.out,HB.out⟩
     case measure=>simp [intOf];omega
    ·have HA:=hd_ (HN.out.2 h0);have q:(Lib.compareBytes x y != 0)=true:=by simpa using h0
     generalize Lib.compareBytes x y=c at HA q;clear h0 HN;go_wp2_with fail;go_ret;exact⟨by rw[HA.out];rfl,HB.out⟩
   ·have d1:decide (k<ps.length)=true:=by simp;omega
    have d2:decide (k<qs.length)=false:=by simp;omega
    have HA:=hd_ (zhk HI.out.1 hk hk2 (.inr (by omega)))
    have d3:decide (ps.length<qs.length)=false:=by simp;omega
    have d4:decide (qs.length<ps.length)=true:=by simp;omega
    have HV:Hid ((if ps.length<qs.length then (-1:Int) else if qs.length<ps.length then 1 else 0)=1):=hd_ (by rw[if_neg (by omega),if_pos (by omega)])
    go_wp2_with fail;go_ret;exact⟨by rw[HA.out,HV.out];rfl,HI.out.2⟩
  ·have d1:decide (k<ps.length)=false:=by simp;omega
   have HA:=hd_ (zhk HI.out.1 hk hk2 (.inl (by omega)))
   by_cases hq:ps.length<qs.length
   ·have d3:decide (ps.length<qs.length)=true:=by simp;omega
    have HV:Hid ((if ps.length<qs.length then (-1:Int) else if qs.length<ps.length then 1 else 0)=-1):=hd_ (by rw[if_pos (by omega)])
    go_wp2_with fail;go_ret;exact⟨by rw[HA.out,HV.out];rfl,HI.out.2⟩
   ·have d3:decide (ps.length<qs.length)=false:=by simp;omega
    have d4:decide (qs.length<ps.length)=false:=by simp;omega
    have HV:Hid ((if ps.length<qs.length then (-1:Int) else if qs.length<ps.length then 1 else 0)=0):=hd_ (by rw[if_neg (by omega),if_neg (by omega)])
    go_wp2_with fail;go_ret;exact⟨by rw[HA.out,HV.out];rfl,HI.out.2⟩
def OrdPost (w:World)(a b:ByteArray)(e:Ending)(w':World):Prop:=∃ n:Int,e=.returned (.int .i64 n)∧Below w.heap.size w w'∧(z2s a=true→z2s b=true→n=z2u a b)
theorem zhm {a:ByteArray}(h:z2q a.data.toList 2=none):z2s a=false:=by unfold z2s z2r;rw[h];rfl
def zhn (a b:ByteArray):Int:=match z2q a.data.toList 2,z2q b.data.toList 2 with
 | none,none=>Lib.compareBytes a.data.toList b.data.toList
 | none,some _=>-1
 | some _,none=>1
 | some ps,some qs=>zh8 ps qs
theorem zho {a b:ByteArray}(ha:z2s a=true)(hb:z2s b=true):zhn a b=z2u a b:=by
 unfold zhn;cases hda:z2q a.data.toList 2 with
 | none=>rw[zhm hda] at ha;cases ha
 | some ps =>
  cases hdb:z2q b.data.toList 2 with
  | none=>rw[zhm hdb] at hb;cases hb
  | some qs=>exact (zhg hda hdb).symm
theorem zhp (a b:ByteArray)(w:World)(he:Env w)(ha:a.size≤2000000)(hb:b.size≤2000000):
  Calls prog 175 #[.string a,.string b] w fun e w'=>e=.returned (.int .i64 (zhn a b))∧Below w.heap.size w w':=by
 have HE:=hd_ he;clear he;have HC:=hd_ (fun a b X=>zhh a b X);cases hda:z2q a.data.toList 2 with
 | none =>
  have HVA:=hd_ (zhm hda);have HA:=hd_ (z92 a w HE.out ha hda);cases hdb:z2q b.data.toList 2 with
  | none =>
   have HB:=hd_ (fun X (hX:Below w.heap.size w X)=>z92 b X (HE.out.below hX) hb hdb);have HF:Hid (zhn a b=Lib.compareBytes a.data.toList b.data.toList):=hd_ (by unfold zhn;rw[hda,hdb])
   clear hda hdb;go_enter func175,ntmps175;go_wp2_with fail;refine HA.out.mono ?_;rintro e w1 ⟨rfl,hb1⟩;have HB1:=hd_ (HB.out w1 hb1);have H1:=hd_ hb1;clear hb1;go_wp2_with fail;refine HB1.out.mono ?_;rintro e w2 ⟨rfl,hb2⟩;have H2:=hd_ hb2;clear hb2;go_wp2_with fail;refine (HC.out a b w2).mono ?_;rintro e w3 ⟨rfl,rfl⟩;go_wp2_with fail;go_ret;exact⟨z34 HF.out.symm,z0r H1.out H2.out⟩
  | some qs =>
   have HB:=hd_ (fun X (hX:Below w.heap.size w X)=>z91 b qs X (HE.out.below hX) hb hdb);have HF:Hid (zhn a b=-1):=hd_ (by unfold zhn;rw[hda,hdb])
   clear hda hdb;go_enter func175,ntmps175;go_wp2_with fail;refine HA.out.mono ?_;rintro e w1 ⟨rfl,hb1⟩;have HB1:=hd_ (HB.out w1 hb1);have H1:=hd_ hb1;clear hb1;go_wp2_with fail;refine HB1.out.mono ?_;rintro e w2 ⟨rfl,rfl⟩;have H2:Hid (Below w1.heap.size w1 (w1.alloc (.cells (z6v qs).toArray 9))):=hd_ ((Below.refl _ _).alloc (Nat.le_refl _) _);generalize w1.alloc (.cells (z6v qs).toArray 9)=w2 at H2 ⊢;go_wp2_with fail;go_ret;exact⟨z34 HF.out.symm,z0r H1.out H2.out⟩
 | some ps =>
  have HA:=hd_ (z91 a ps w HE.out ha hda);have hA1:Below w.heap.size w (w.alloc (.cells (z6v ps).toArray 9)):=(Below.refl _ _).alloc (Nat.le_refl _) _;have hS1:=z8k.of_blk (z0l w (z6v ps) 9);cases hdb:z2q b.data.toList 2 with
  | none =>
   have HVB:=hd_ (zhm hdb);have HB:=hd_ (fun X (hX:Below w.heap.size w X)=>z92 b X (HE.out.below hX) hb hdb);have HF:Hid (zhn a b=1):=hd_ (by unfold zhn;rw[hda,hdb])
   clear hda hdb;go_enter func175,ntmps175;go_wp2_with fail;refine HA.out.mono ?_;rintro e w1 ⟨rfl,rfl⟩;have HB1:=hd_ (HB.out _ hA1);have H1:=hd_ hA1;clear hA1 hS1;generalize w.alloc (.cells (z6v ps).toArray 9)=w1 at HB1 H1 ⊢;go_wp2_with fail;refine HB1.out.mono ?_;rintro e w2 ⟨rfl,hb2⟩;have H2:=hd_ hb2;clear hb2;go_wp2_with fail;go_ret;exact⟨z34 HF.out.symm,z0r H1.out H2.out⟩
  | some qs =>
   have HB:=hd_ (fun X (hX:Below w.heap.size w X)=>z91 b qs X (HE.out.below hX) hb hdb);have HCM:=hd_ (zhg hda hdb);have hlp:ps.length≤2000001∧qs.length≤2000001:=by
    have k1:ps=z1a (a.data.toList.drop 2):=by unfold z2q at hda;split at hda;(injection hda with h;exact h.symm);cases hda
    have k2:qs=z1a (b.data.toList.drop 2):=by unfold z2q at hdb;split at hdb;(injection hdb with h;exact h.symm);cases hdb
    rw[k1,k2];exact⟨(z8x a 2 ha).1,(z8x b 2 hb).1⟩
   have HLP:=hd_ hlp;have HF:Hid (zhn a b=zh8 ps qs):=hd_ (by unfold zhn;rw[hda,hdb])
   clear hda hdb hlp;go_enter func175,ntmps175;go_wp2_with fail;refine HA.out.mono ?_;rintro e w1 ⟨rfl,rfl⟩;have HB1:=hd_ (HB.out _ hA1);have H1:=hd_ hA1;have HS1:=hd_ hS1;clear hA1 hS1;generalize w.alloc (.cells (z6v ps).toArray 9)=w1 at HB1 H1 HS1 ⊢;go_wp2_with fail;refine HB1.out.mono ?_;rintro e w2 ⟨rfl,rfl⟩;have hA2:Below w1.heap.size w1 (w1.alloc (.cells (z6v qs).toArray 9)):=(Below.refl _ _).alloc (Nat.le_refl _) _;have HS2:=hd_ (z8k.of_blk (z0l w1 (z6v qs) 9));have HS3:=hd_ (HS1.out.below hA2);have H2:=hd_ hA2;clear hA2;generalize w1.alloc (.cells (z6v qs).toArray 9)=w2 at HS2 HS3 H2 ⊢;have HCP:=hd_ (zhl ps qs w.heap.size w1.heap.size w2 HS3.out HS2.out HLP.out.1 HLP.out.2);go_wp2_with fail;refine HCP.out.mono ?_;rintro e w3 ⟨rfl,hb3⟩;have H3:=hd_ hb3;clear hb3;go_wp2_with fail;go_ret;exact⟨z34 HF.out.symm,z0r H1.out (z0r H2.out H3.out)⟩
theorem zhq (a b:ByteArray)(w:World)(he:Env w)(ha:a.size≤2000000)(hb:b.size≤2000000):
  Calls prog 175 #[.string a,.string b] w (OrdPost w a b):=
 (zhp a b w he ha hb).mono fun e w' ⟨h1,h2⟩=>⟨_,h1,h2,fun h3 h4=>zho h3 h4⟩
open Go.Sort (grow)
section
variable {u0 u1 u2 u3 u4 u5 u6 u7 u8 u9 gn gt gu gx gy gz gA gC gD gE gF gG gH gI gJ gK gL gM gN gO gP gQ gR gT gV gW gX gY gZ i6 i7 i8 ia ib ic ie ig ii ij ik il im io ip iq ir iu iv iw ix iy iz iA iB iC iD iE iF iG iH iI iJ iK iL iM iN iO iP iQ iR iS iT iU iV iW iX iY iZ j0 j1 j2 j5 j6 j7 j8 j9 jb jd je jf bw bz bA bB bD bE bF bG bH bI bJ bK bL bM bN bO bP bQ bT bU bV bW bX bY bZ ca cj : Value}
theorem intElem:z0e prog 22 3 1 8:=z0f underlying22 (z:=.int .i64 0) (by kernel_rfl) rfl (by decide)
structure Bk1 (X wr:World)(bS bC:Nat)(F:ByteArray→Option Nat)(f:ByteArray→List Nat):Prop where
 low:Below X.heap.size X wr
 st:z2f Value.string natV wr bS F
 com:zkp wr X.heap.size wr.heap.size bC f
 ne:bS≠bC
 leC:X.heap.size≤bC
theorem Bk1.under {X wr wx:World}{bS bC:Nat}{F:ByteArray→Option Nat}{f:ByteArray→List Nat}(h:Bk1 X wr bS bC F f)(hb:Below wr.heap.size wr wx):Bk1 X wx bS bC F f:=
 ⟨z0r h.low hb,h.st.below hb,(h.com.keep fun x hx _=>hb.block x hx).upTo hb.size,h.ne,h.leC⟩
theorem zky {w:World}{B g:Nat}{e e2:TypeId}{size n:Nat}{v:Value}{xs cs:List Value}(h:w.ownsRow B e size v n xs)(hb:Blk w g e2 cs)(he:e≠e2):v.ownBlock≠some g:=by
 intro hx;rcases h.2 with⟨rfl,_⟩ | ⟨g',cap,cur,rfl,_,hg,_⟩
 ·cases hx
 ·injection hx with hx
  have hx':g'=g:=hx;subst hx';have hb':w.heap[g']? = _:=hb;rw[hg] at hb';injection hb' with hb'
  injection hb' with _ e1
  exact he e1
theorem bkR7 (ops:Array Oper)(hops:Tryz.f38.body.bind (zci 7)=some ops)(Q:Exit→Act→World→Prop)(X V1:World)(g7 bS bC:Nat)(F:ByteArray→Option Nat)(f:ByteArray→List Nat)(x:Syn)(i:Nat)
  (hI:Bk1 X V1 bS bC F f) (hx:Blk V1 g7 48 [.int .i64 x.kind,.string x.path,.int .i64 x.num,.string x.frm,.string x.dst]) (hf:(f x.dst).length≤1000000) (hX:X.heap.size≤V1.heap.size)
  (hQ:∀(eJ eK eL eM eN eO eP eQ eR eS:Value) (w':World),Hid (Bk1 X w' bS bC F (putF f x.dst i))→Q .normal ⟨#[u0,u1,u2,u3,u4,.map (some bC),.int .i64 i,.pointer (some ⟨g7,0,none⟩),u8,u9,gn,gt,gu,gx,gy,gz,gA,gC,gD,gE,gF,gG,gH,gI,gJ,gK,gL,gM,gN,gO,gP,gQ,eJ,eK,eL,eM,eN,eO,eP,eQ,eR,eS,ia,ib,ic,ie,ig,ii,ij,ik,il,im,io,ip,iq,ir,iu,iv,iw,ix,iy,iz,iA,iB,iC,iD,iE,iF,iG,iH,iI,iJ,iK,iL,iM,iN,iO,iP,iQ,iR,iS,iT,iU,iV,iW,iX,iY,iZ,j0,j1,j2,j5,j6,j7,j8,j9,jb,jd,je,jf,bw,bz,bA,bB,bD,bE,bF,bG,bH,bI,bJ,bK,bL,bM,bN,bO,bP,bQ,bT,bU,bV,bW,bX,bY,bZ,ca,cj],[]⟩ w'):
  (Code.region 7 ops true).wp prog Q ⟨#[u0,u1,u2,u3,u4,.map (some bC),.int .i64 i,.pointer (some ⟨g7,0,none⟩),u8,u9,gn,gt,gu,gx,gy,gz,gA,gC,gD,gE,gF,gG,gH,gI,gJ,gK,gL,gM,gN,gO,gP,gQ,gR,gT,gV,gW,gX,gY,gZ,i6,i7,i8,ia,ib,ic,ie,ig,ii,ij,ik,il,im,io,ip,iq,ir,iu,iv,iw,ix,iy,iz,iA,iB,iC,iD,iE,iF,iG,iH,iI,iJ,iK,iL,iM,iN,iO,iP,iQ,iR,iS,iT,iU,iV,iW,iX,iY,iZ,j0,j1,j2,j5,j6,j7,j8,j9,jb,jd,je,jf,bw,bz,bA,bB,bD,bE,bF,bG,bH,bI,bJ,bK,bL,bM,bN,bO,bP,bQ,bT,bU,bV,bW,bX,bY,bZ,ca,cj],[]⟩ V1:=by
 simp only[Tryz.f38,Option.bind_some,zci] at hops
 simp at hops
 subst hops;obtain⟨A,c,hlk,hrow,hup,hback⟩:=hI.com.look x.dst;have hbC:bC<V1.heap.size:=by obtain⟨g,hg⟩:=hI.com;exact hg.map.lt
 have hnr:=zky hrow hx (by decide)
 have HL:Hid (∀ W,Below V1.heap.size V1 W→(Instr.lookup 123 (.map (some bC)) (.string x.dst) false).run prog W=.ok (.slice A (f x.dst).length c) W):=hd_ fun W hW=>hlk W (hW.block bC hbC);have HX:Hid (∀ W,Below V1.heap.size V1 W→W.cell? ⟨g7,4,none⟩=some (.string x.dst)):=hd_ fun W hW=>(hx.below hW hx.lt).cell 4;have HX2:Hid (∀ Y W,Below V1.heap.size V1 Y→Y.grownBy W (Value.slice A (f x.dst).length c).ownBlock→W.cell? ⟨g7,4,none⟩=some (.string x.dst)):=hd_ fun Y W hY hG=>((hx.below hY hx.lt).grown hG (fun e=>hnr e.symm)).cell 4;have HROW:Hid (∀ W,Below V1.heap.size V1 W→W.ownsRow X.heap.size 3 1 (.slice A (f x.dst).length c) (f x.dst).length (zkl (f x.dst))):=hd_ fun W hW=>z0n hrow hW;have HEND:Hid (∀(Y W:World) (A':Option Addr) (c':Nat),Below V1.heap.size V1 Y→Y.grownBy W (Value.slice A (f x.dst).length c).ownBlock→W.ownsRow X.heap.size 3 1 (.slice A' ((f x.dst).length+1) c') ((f x.dst).length+1) (zkl (f x.dst)++[.int .i64 i]) →
   ((Value.slice A' ((f x.dst).length+1) c').ownBlock=(Value.slice A (f x.dst).length c).ownBlock∨(Value.slice A' ((f x.dst).length+1) c').ownBlock=some Y.heap.size) →
   ∃ W2,(Instr.mapUpdate 123 (.map (some bC)) (.string x.dst) (.slice A' ((f x.dst).length+1) c')).run prog W=.ok () W2∧Bk1 X W2 bS bC F (putF f x.dst i)):=hd_ fun Y W A' c' hY hG hO hB=>by
  have hg1:V1.grownBy W (Value.slice A (f x.dst).length c).ownBlock:=⟨hG.os.trans hY.os,hG.tape.trans hY.tape,hG.output.trans hY.output,Nat.le_trans hY.size hG.size,fun k hk hne=>(hG.block k (Nat.lt_of_lt_of_le hk hY.size) hne).trans (hY.block k hk)⟩;obtain⟨W2,h1,h2,h3,h4⟩:=hback W A' c' _ i W.heap.size hg1 rfl hO (Nat.le_refl _) hg1.size (Nat.le_refl _) (by
   rcases hB with e | e
   ·exact .inl e
   ·exact .inr ⟨_,e,hY.size⟩)
  have hrb:∀ k,(Value.slice A (f x.dst).length c).ownBlock=some k→X.heap.size≤k:=fun k hk=>(hup k hk).2;obtain⟨es,cc,hm⟩:=zko hI.st;have hbS:(Value.slice A (f x.dst).length c).ownBlock≠some bS:=fun e=>zkn hrow e hm;have hl1:Below X.heap.size X W:=hI.low.grown hg1 hX hrb;exact⟨W2,h1,⟨hl1.grown h3 (Nat.le_trans hX hg1.size) (fun k e=>by injection e with e;have:=hI.leC;omega),(hI.st.grown hg1 (fun e=>hbS e.symm)).grown h3 (fun e=>hI.ne (by injection e)),by rw[h4];exact h2,hI.ne,hI.leC⟩⟩
 have HQ:=hd_ hQ;have hdr:Below V1.heap.size V1 V1.drew:=(Below.refl _ _).drew;have hda:Below V1.heap.size V1 (V1.alloc (.cells #[.int .i64 i] 3)).drew:=(zcf (Below.refl _ _) _).drew;have HDA:=hd_ hda;have x1:=HX.out V1 (Below.refl _ _);have x2:=HX.out _ hda;have l1:=HL.out _ hdr;have l2:=HL.out _ hda;have HF:=hd_ hf;have HSZ:Hid (X.heap.size≤(V1.alloc (.cells #[.int .i64 i] 3)).drew.heap.size):=hd_ (Nat.le_trans hX hda.size);clear hQ hI hx hlk hrow hup hback hdr hda hf hX hbC hnr;generalize f x.dst=fl at *;refine wp_region_noPanic ?_;go_region_law (first
  | (refine zce (base:=X.heap.size) rfl rfl intElem (HROW.out _ HDA.out) (by simp [Act.eval,Act.put];done) (Row.drew (z0i V1 [.int .i64 i] _ 1 1 rfl (by decide) _ rfl)) (by simp [Act.eval,Act.put];done) (by simp [Value.oneCell']) (by have:=HF.out;omega) (by have:=HF.out;unfold maxLen;omega) HSZ.out ?_;intro A6 c6 w6 hO6 hG6 hw6;have x6:=HX2.out _ _ HDA.out hG6;obtain⟨W2,hup2,hfin⟩:=HEND.out _ _ _ _ HDA.out hG6 hO6 hw6))
 all_goals exact NoPanic.normal (HQ.out _ _ _ _ _ _ _ _ _ _ _ (hd_ hfin))
end
section
variable {u0 u1 u2 u3 u4 u5 u6 u7 u8 u9 gn gt gu gx gy gz gA gC gD gE gF gG gH gI gJ gK gL gM gN gO gP gQ gR gT gV gW gX gY gZ i6 i7 i8 ia ib ic ie ig ii ij ik il im io ip iq ir iu iv iw ix iy iz iA iB iC iD iE iF iG iH iI iJ iK iL iM iN iO iP iQ iR iS iT iU iV iW iX iY iZ j0 j1 j2 j5 j6 j7 j8 j9 jb jd je jf bw bz bA bB bD bE bF bG bH bI bJ bK bL bM bN bO bP bQ bT bU bV bW bX bY bZ ca cj : Value}
theorem bkR23 (ops:Array Oper)(hops:Tryz.f38.body.bind (zci 23)=some ops)(Q:Exit→Act→World→Prop)(V1:World)(g n c i g13:Nat)(x:Syn)(hp:ByteArray)
  (hx:z50 V1 ⟨g,i * 5,none⟩ x) (hh:V1.cell? ⟨g13,0,none⟩=some (.string hp)) (hi:i<n)
  (hQ:∀(fV fW fX fY fZ ga gb gf gg gh gi gj gm aa:Value) (w':World),Below V1.heap.size V1 w'→Q .normal ⟨#[u0,.slice (some ⟨g,0,none⟩) n c,u2,u3,u4,u5,u6,u7,u8,u9,gn,gt,gu,.pointer (some ⟨g13,0,none⟩),gy,.int .i64 i,gA,gC,gD,gE,gF,gG,gH,gI,gJ,gK,gL,gM,gN,gO,gP,gQ,gR,gT,gV,gW,gX,gY,gZ,i6,i7,i8,ia,ib,ic,ie,ig,ii,ij,ik,il,im,io,ip,iq,ir,iu,iv,iw,ix,iy,iz,iA,iB,iC,iD,iE,iF,iG,iH,iI,iJ,iK,iL,iM,iN,iO,iP,iQ,iR,iS,iT,iU,iV,iW,iX,iY,fV,fW,fX,fY,fZ,ga,gb,gf,gg,gh,gi,gj,gm,aa,.bool (decide (x.path=hp) || z3o x.kind),bA,bB,bD,bE,bF,bG,bH,bI,bJ,bK,bL,bM,bN,bO,bP,bQ,bT,bU,bV,bW,bX,bY,bZ,ca,cj],[]⟩ w'):
  (Code.region 23 ops true).wp prog Q ⟨#[u0,.slice (some ⟨g,0,none⟩) n c,u2,u3,u4,u5,u6,u7,u8,u9,gn,gt,gu,.pointer (some ⟨g13,0,none⟩),gy,.int .i64 i,gA,gC,gD,gE,gF,gG,gH,gI,gJ,gK,gL,gM,gN,gO,gP,gQ,gR,gT,gV,gW,gX,gY,gZ,i6,i7,i8,ia,ib,ic,ie,ig,ii,ij,ik,il,im,io,ip,iq,ir,iu,iv,iw,ix,iy,iz,iA,iB,iC,iD,iE,iF,iG,iH,iI,iJ,iK,iL,iM,iN,iO,iP,iQ,iR,iS,iT,iU,iV,iW,iX,iY,iZ,j0,j1,j2,j5,j6,j7,j8,j9,jb,jd,je,jf,bw,bz,bA,bB,bD,bE,bF,bG,bH,bI,bJ,bK,bL,bM,bN,bO,bP,bQ,bT,bU,bV,bW,bX,bY,bZ,ca,cj],[]⟩ V1:=by
 simp only[Tryz.f38,Option.bind_some,zci] at hops
 simp at hops
 subst hops;have HQ:=hd_ hQ;have HST:=hd_ (fun X=>z3u x X);have cC:∀ d os,Calls prog 62 #[.agg #[.int .i64 x.kind,.string x.path,.int .i64 x.num,.string x.frm,.string x.dst]] (grow (redrawn V1 d) os) fun e w''=>e=.returned (.bool (z3o x.kind))∧∃ p:Regrown,w''=grow (redrawn V1 p.d) p.os:=fun d os=>Calls.regrown_of (HST.out _);obtain⟨s0,s1,s2,s3,s4⟩:=hx;have e0:=cell_regrown s0;have e1:=cell_regrown s1;have e2:=cell_regrown s2;have e3:=cell_regrown s3;have e4:=cell_regrown s4;have b0:=cell_regrown hh;clear s0 s1 s2 s3 s4 hh hQ;generalize z3o x.kind=b at cC HQ;by_cases h1:x.path=hp
 ·have q1:(x.path.toList == hp.toList)=true:=by rw[z3x,decide_eq_true h1]
  rw[decide_eq_true h1,Bool.true_or] at HQ;clear h1;refine wp_region_quiet_below (by kernel_rfl) (by kernel_rfl) ?_
  repeat (first | go_big_quiet_step (exact cC _ _) | quiet_step (exact cC _ _))
  refine wpQuiet_nil ?_;intro _ hw9;obtain⟨⟨dq,osq⟩,hw9⟩:=hw9;subst hw9;exact HQ.out _ _ _ _ _ _ _ _ _ _ _ _ _ _ _ (below_regrown V1 dq osq)
 ·have q1:(x.path.toList == hp.toList)=false:=by rw[z3x,decide_eq_false h1]
  rw[decide_eq_false h1,Bool.false_or] at HQ;clear h1;refine wp_region_quiet_below (by kernel_rfl) (by kernel_rfl) ?_
  repeat (first | go_big_quiet_step (exact cC _ _) | quiet_step (exact cC _ _))
  refine wpQuiet_nil ?_;intro _ hw9;obtain⟨⟨dq,osq⟩,hw9⟩:=hw9;subst hw9;exact HQ.out _ _ _ _ _ _ _ _ _ _ _ _ _ _ _ (below_regrown V1 dq osq)
structure Bk3 (X wr:World)(B B2:Nat)(Ap:Option Addr)(c bC:Nat)(pl:List Syn)(b:ByteArray→Bool)(QH:List Hav)(qv:Value):Prop where
 own:zjv wr B (.slice Ap pl.length c) (zeg b pl)
 com:zkp wr X.heap.size B2 bC (zkq pl pl.length)
 low:Below B X wr
 que:zk1 wr B2 44 3 qv QH.length (QH.flatMap Hav.cells)
 b2:B2≤wr.heap.size
theorem zl2 (b:ByteArray→Bool)(pl:List Syn):(zeg b pl).length=pl.length:=List.length_map _
section
variable {X wr wx : World} {B B2 g c bC : Nat} {Ap : Option Addr} {pl : List Syn} {b : ByteArray → Bool} {QH : List Hav} {qv : Value}
theorem Bk3.under (h:Bk3 X wr B B2 Ap c bC pl b QH qv)(hb:Below wr.heap.size wr wx)(hB:B≤B2):Bk3 X wx B B2 Ap c bC pl b QH qv:=
 ⟨z0n h.own hb,h.com.keep fun x hx _=>hb.block x (Nat.lt_of_lt_of_le hx h.b2),h.low.trans (hb.mono (Nat.le_trans hB h.b2)),h.que.below hb,Nat.le_trans h.b2 hb.size⟩
theorem Bk3.pop {x:Hav}{ad:Addr}{cq:Nat}(h:Bk3 X wr B B2 Ap c bC pl b (x :: QH) (.slice (some ad) (QH.length+1) cq)):Bk3 X wr B B2 Ap c bC pl b QH (.slice (if cq=1 then some ad else some ⟨ad.block,ad.off+3,none⟩) QH.length (cq - 1)):=by
 have hq:zk1 wr B2 44 3 (.slice (some ad) (QH.length+1) cq) (QH.length+1) ((x :: QH).flatMap Hav.cells):=h.que;have ht:=hq.tail;have hd:((x :: QH).flatMap Hav.cells).drop 3=QH.flatMap Hav.cells:=by rw[List.flatMap_cons];rfl
 rw[hd] at ht;exact⟨h.own,h.com,h.low,ht,h.b2⟩
theorem Bk3.mark_ (h:Bk3 X wr B B2 (some ⟨g,0,none⟩) c bC pl b QH qv)(hs:z6c pl){k:Nat}(hk:k<pl.length)(hg:g<X.heap.size)(hB:B≤g)(hX:X.heap.size≤B2)(hC:X.heap.size≤bC):
  Bk3 X (wr.setCell ⟨g,k * 5,none⟩ (.int .i64 5)) B B2 (some ⟨g,0,none⟩) c bC pl (setB b pl[k].path) QH qv:=by
 have hk2:k<(zeg b pl).length:=by rw[zl2];exact hk
 have ho:=zjv.put h.own hk2 5;rw[zkx hs b hk hk2] at ho;refine⟨ho,h.com.keep fun x _ hx=>Below.heap_setCell wr ⟨g,k * 5,none⟩ _ x ?_,h.low.setCell hB _,h.que.setCell (p:=⟨g,k * 5,none⟩) (fun e=>by have h2:=(h.que.lt g e).1;omega) _,by simpa [World.setCell] using h.b2⟩
 show x≠g
 rcases hx with hx | hx
 ·omega
 ·omega
theorem Bk3.push {y:Hav}{A':Option Addr}{c':Nat}(h:Bk3 X wr B B2 Ap c bC pl b QH qv)(hB:B≤B2)(hg:∀ x,(Value.slice Ap pl.length c).ownBlock=some x→x<B2)(hq:zk1 wx B2 44 3 (.slice A' (QH.length+1) c') (QH.length+1) (QH.flatMap Hav.cells++y.cells))(hs:zl1 wr wx qv):
  Bk3 X wx B B2 Ap c bC pl b (QH++[y]) (.slice A' (QH.length+1) c'):=by
 have hlt:=h.que.lt;refine⟨?_,h.com.keep fun x hx _=>hs.block (Nat.lt_of_lt_of_le hx h.b2) (fun e=>by have:=(hlt x e).1;omega),hs.low h.low (Nat.le_trans hB h.b2) (fun k e=>Nat.le_trans hB (hlt k e).1),?_,Nat.le_trans h.b2 hs.size⟩
 ·refine⟨h.own.1,?_⟩;rcases h.own.2 with e | ⟨g',cap,cur,e1,h1,h2,h3⟩
  ·exact .inl e
  ·refine .inr ⟨g',cap,cur,e1,h1,(hs.block (Array.getElem?_eq_some_iff.1 h2).1 (fun e=>?_)).trans h2,h3⟩;have h5:=(hlt g' e).1;have h6:=hg g' (by rw[e1];rfl)
   omega
 ·rw[List.length_append,List.flatMap_append];have e:[y].flatMap Hav.cells=y.cells:=by simp
  rw[e];exact hq
end
end
def zlq:List Hav→ByteArray→Nat×Bool
 | [],_=>(0,false)
 | x :: l,p=>if x.path=p then (0,true) else if 0<z2u x.path p then (0,false) else ((zlq l p).1+1,(zlq l p).2)
def zlr (l:List Hav)(h:Hav):List Hav:=l.take (zlq l h.path).1++h :: l.drop ((zlq l h.path).1+if (zlq l h.path).2 then 1 else 0)
theorem zls:∀(l:List Hav) (p:ByteArray),(zlq l p).1≤l.length∧((zlq l p).2=true→(zlq l p).1<l.length)
 | [],_=>⟨Nat.le_refl _,fun h=>by cases h⟩
 | x :: l,p=>by
  obtain⟨h1,h2⟩:=zls l p;unfold zlq;split
  ·exact⟨Nat.zero_le _,fun _=>Nat.succ_pos _⟩
  ·split
   ·exact⟨Nat.zero_le _,fun h=>by cases h⟩
   ·exact⟨Nat.succ_le_succ h1,fun h=>Nat.succ_lt_succ (h2 h)⟩
theorem zlt {p:ByteArray}:∀ {l:List Hav} {k:Nat} (hk:k<l.length),(∀ j (hj:j<l.length),j<k→l[j].path≠p∧¬ 0<z2u l[j].path p) →
  (l[k].path=p→zlq l p=(k,true))∧(l[k].path≠p→0<z2u l[k].path p→zlq l p=(k,false))
 | [],k,hk,_=>absurd hk (by simp)
 | x :: l,0,_,_=>by
  refine⟨fun e=>?_,fun e h=>?_⟩
  ·unfold zlq;rw[if_pos (show x.path=p from e)]
  ·unfold zlq;rw[if_neg (show ¬ x.path=p from e),if_pos (show 0<z2u x.path p from h)]
 | x :: l,k+1,hk,h=>by
  obtain⟨h1,h2⟩:=h 0 (Nat.succ_pos _) (Nat.succ_pos _);have h1':¬ x.path=p:=h1;have h2':¬ 0<z2u x.path p:=h2;obtain⟨i1,i2⟩:=zlt (l:=l) (k:=k) (by simpa using hk) fun j hj hjk=>h (j+1) (by simpa using hj) (by omega)
  rw[List.getElem_cons_succ];refine⟨fun e=>?_,fun e h=>?_⟩
  ·unfold zlq;rw[if_neg h1',if_neg h2',i1 e]
  ·unfold zlq;rw[if_neg h1',if_neg h2',i2 e h]
theorem zlu {p:ByteArray}:∀ {l:List Hav},(∀ j (hj:j<l.length),l[j].path≠p∧¬ 0<z2u l[j].path p)→zlq l p=(l.length,false)
 | [],_=>rfl
 | x :: l,h=>by
  obtain⟨h1,h2⟩:=h 0 (Nat.succ_pos _);have h1':¬ x.path=p:=h1;have h2':¬ 0<z2u x.path p:=h2;have i:=zlu (l:=l) (p:=p) fun j hj=>h (j+1) (by simpa using hj)
  unfold zlq;rw[if_neg h1',if_neg h2',i];rfl
theorem zlv (x:Hav)(l:List Hav)(h:Hav):zlr (x :: l) h=if x.path=h.path then h :: l else if 0<z2u x.path h.path then h :: x :: l else x :: zlr l h:=by
 unfold zlr;rw[zlq];by_cases h1:x.path=h.path
 ·rw[if_pos h1,if_pos h1];rfl
 ·rw[if_neg h1,if_neg h1];by_cases h2:0<z2u x.path h.path
  ·rw[if_pos h2,if_pos h2];rfl
  ·rw[if_neg h2,if_neg h2];show x :: (l.take _++h :: (x :: l).drop _)=_
   rw[show (zlq l h.path).1+1+(if (zlq l h.path).2=true then 1 else 0)=(zlq l h.path).1+(if (zlq l h.path).2=true then 1 else 0)+1 by omega,List.drop_succ_cons]
theorem zlw:∀(l:List Hav) (h x:Hav),x∈zlr l h→x=h∨x∈l
 | [],h,x,hx=>by
  have hx':x∈[h]:=hx;exact .inl (List.mem_singleton.1 hx')
 | y :: l,h,x,hx=>by
  rw[zlv] at hx;split at hx
  ·rcases List.mem_cons.1 hx with e | e
   ·exact .inl e
   ·exact .inr (List.mem_cons_of_mem _ e)
  ·split at hx
   ·rcases List.mem_cons.1 hx with e | e
    ·exact .inl e
    ·exact .inr e
   ·rcases List.mem_cons.1 hx with e | e
    ·exact .inr (by rw[e];exact List.mem_cons_self ..)
    ·rcases zlw l h x e with e | e
     ·exact .inl e
     ·exact .inr (List.mem_cons_of_mem _ e)
theorem zlx:∀(l:List Hav) (h:Hav),z6b l→(∀ x∈l,z2s x.path=true)→z2s h.path=true→z6b (zlr l h)∧∀ p,z6d (zlr l h) p=if p=h.path then some h else z6d l p
 | [],h,_,_,_=>by
  refine⟨List.pairwise_singleton _ _,fun p=>?_⟩;show z5y Hav.path [h] p=_
  rw[z63];by_cases e:p=h.path
  ·rw[if_pos e.symm,if_pos e]
  ·rw[if_neg (fun e2=>e e2.symm),if_neg e]
 | x :: l,h,hs,hv,hh=>by
  have hvx:=hv x (List.mem_cons_self ..);rw[zlv];by_cases h1:x.path=h.path
  ·rw[if_pos h1];refine⟨List.pairwise_cons.2 ⟨fun b hb=>?_,hs.tail⟩,fun p=>?_⟩
   ·rw[← h1];exact hs.head b hb
   ·show z5y Hav.path (h :: l) p=if p=h.path then some h else z5y Hav.path (x :: l) p
    rw[z63,z63,h1];by_cases e:p=h.path
    ·rw[if_pos e.symm,if_pos e]
    ·rw[if_neg (fun e2=>e e2.symm),if_neg e,if_neg (fun e2=>e e2.symm)]
  ·rw[if_neg h1];by_cases h2:0<z2u x.path h.path
   ·rw[if_pos h2];have h3:z2u h.path x.path<0:=by rw[z5q];omega
    refine⟨List.pairwise_cons.2 ⟨fun b hb=>?_,hs⟩,fun p=>?_⟩
    ·rcases List.mem_cons.1 hb with e | e
     ·rw[e];exact h3
     ·exact z5f hh hvx (hv b (List.mem_cons_of_mem _ e)) h3 (hs.head b e)
    ·show z5y Hav.path (h :: x :: l) p=_
     rw[z63];by_cases e:p=h.path
     ·rw[if_pos e.symm,if_pos e]
     ·rw[if_neg (fun e2=>e e2.symm),if_neg e]
   ·rw[if_neg h2];have h3:z2u x.path h.path<0:=by
     rcases Int.lt_or_le (z2u x.path h.path) 0 with h | h
     ·exact h
     ·exact absurd (z6k hvx hh (by omega) h2) h1
    obtain⟨i1,i2⟩:=zlx l h hs.tail (fun y hy=>hv y (List.mem_cons_of_mem _ hy)) hh;refine⟨List.pairwise_cons.2 ⟨fun b hb=>?_,i1⟩,fun p=>?_⟩
    ·rcases zlw l h b hb with e | e
     ·rw[e];exact h3
     ·exact hs.head b e
    ·show z5y Hav.path (x :: zlr l h) p=if p=h.path then some h else z5y Hav.path (x :: l) p
     rw[z63,z63];have i2':=i2 p;by_cases e:x.path=p
     ·rw[if_pos e,if_pos e,if_neg (fun e2=>h1 (e.trans e2))]
     ·rw[if_neg e,if_neg e];exact i2'
def zly (D:List Rev)(f:ByteArray→Option ByteArray)(m:Int)(k:Nat)(out:List Hav):Prop:=
 z6b out∧(∀ x∈out,x.path∈zff)∧(∀ x∈out,zfj D f m x.path=some x)∧∀(j:Nat) (hj:j<D.length),j<k→∀ h,zfj D f m D[j].path=some h→h∈out
theorem refW_0 (D:List Rev)(f:ByteArray→Option ByteArray)(m:Int):zly D f m 0 []:=⟨List.Pairwise.nil,(fun x h=>by cases h),(fun x h=>by cases h),fun j _ h=>by omega⟩
theorem refW_no {D:List Rev}{f:ByteArray→Option ByteArray}{m:Int}{k:Nat}{out:List Hav}(h:zly D f m k out)(hk:k<D.length)(e:zfj D f m D[k].path=none):zly D f m (k+1) out:=
 ⟨h.1,h.2.1,h.2.2.1,fun j hj hjk x hx=>by
  by_cases ej:j=k
  ·subst ej;rw[e] at hx;cases hx
  ·exact h.2.2.2 j hj (by omega) x hx⟩
theorem zlz {p:ByteArray}(h:p∈zff):z2s p=true:=(zf2 (zfh p h)).1
theorem zm0 {D:List Rev}{f:ByteArray→Option ByteArray}{m:Int}{k:Nat}{out:List Hav}{x:Hav}(h:zly D f m k out)(hk:k<D.length)(h6:∀ r∈D,r.path∈zff)(e:zfj D f m D[k].path=some x):zly D f m (k+1) (zlr out x):=by
 obtain⟨h1,h2,h3,h4⟩:=h;have hxp:x.path=D[k].path:=(zfm e).1;have hx6:x.path∈zff:=by rw[hxp];exact h6 _ (List.getElem_mem hk)
 obtain⟨i1,i2⟩:=zlx out x h1 (fun y hy=>zlz (h2 y hy)) (zlz hx6);have hmem:∀ y,y∈zlr out x↔y=x∨(y∈out∧y.path≠x.path):=by
  intro y;constructor
  ·intro hy;have hg:=z65 i1 hy;have hg':z6d (zlr out x) y.path=some y:=hg;rw[i2] at hg';by_cases ey:y.path=x.path
   ·rw[if_pos ey] at hg';exact .inl (Option.some.inj hg').symm
   ·rw[if_neg ey] at hg';exact .inr ⟨(z61 hg').1,ey⟩
  ·rintro (rfl | ⟨hy,ey⟩)
   ·have:=i2 y.path;rw[if_pos rfl] at this;exact (z61 this).1
   ·have:=i2 y.path;rw[if_neg ey] at this;have hg:z6d out y.path=some y:=z65 h1 hy;rw[hg] at this;exact (z61 this).1
 refine⟨i1,fun y hy=>?_,fun y hy=>?_,fun j hj hjk y hy=>?_⟩
 ·rcases (hmem y).1 hy with rfl | ⟨a,_⟩
  ·exact hx6
  ·exact h2 y a
 ·rcases (hmem y).1 hy with rfl | ⟨a,_⟩
  ·rw[hxp];exact e
  ·exact h3 y a
 ·by_cases ep:D[j].path=D[k].path
  ·rw[ep,e] at hy;exact (hmem y).2 (.inl (Option.some.inj hy).symm)
  ·have hjk2:j≠k:=fun ee=>ep (by subst ee;rfl)
   have hy2:=h4 j hj (by omega) y hy
   refine (hmem y).2 (.inr ⟨hy2,?_⟩);rw[(zfm hy).1,hxp];exact ep
theorem zm1 {D:List Rev}{f:ByteArray→Option ByteArray}{m:Int}{out:List Hav}(h:zly D f m D.length out)(hn:∀ r∈D,1≤r.num)(hf:zfi f):out=zfk D f m:=by
 refine z66 h.1 (zfn hn hf).srt fun x=>⟨fun hx=>?_,fun hx=>?_⟩
 ·exact List.mem_filterMap.2 ⟨x.path,h.2.1 x hx,h.2.2.1 x hx⟩
 ·obtain⟨p,hp,e⟩:=List.mem_filterMap.1 hx;obtain⟨e1,-,r,hr,e3,-⟩:=zfm e;obtain⟨j,hj,rfl⟩:=List.getElem_of_mem hr;exact h.2.2.2 j hj hj x (by rw[e3];exact e)
theorem zm2 {D:List Rev}{f:ByteArray→Option ByteArray}{m:Int}{k:Nat}{out:List Hav}(h:zly D f m k out):out.length≤6:=by
 have e:out.map Hav.path=zff.filter (fun p=>decide (p∈out.map Hav.path)):=z66 (z68 (kb:=fun q:ByteArray=>q) h.1 fun _=>rfl) (z6a zfg _) fun a=>by
  rw[List.mem_filter,decide_eq_true_eq];refine⟨fun ha=>⟨?_,ha⟩,fun ha=>ha.2⟩;obtain⟨x,hx,rfl⟩:=List.mem_map.1 ha;exact h.2.1 x hx
 have h1:=congrArg List.length e;rw[List.length_map] at h1;rw[h1];exact Nat.le_trans (List.length_filter_le _ _) (by decide)
theorem z4b.under {w w':World}{v:Value}{l:List Hav}(h:z4b w v l)(hb:Below w.heap.size w w'):z4b w' v l:=Row.below h hb
theorem zm3 (l:List Hav)(v:Value)(p:ByteArray)(w:World)(he:Env w)(hH:z4b w v l)(hv:∀ x∈l,z2s x.path=true∧x.path.size≤1000000)(hp:z2s p=true)(hz:p.size≤1000000)(hl:l.length≤1000000):
  Calls prog 141 #[v,.string p] w fun e w'=>e=.returned (.tuple #[.int .i64 (zlq l p).1,.bool (zlq l p).2])∧Below w.heap.size w w':=by
 obtain⟨A,c,rfl,-⟩:=id hH;have HE:=hd_ he;have HH:=hd_ hH;have HV:=hd_ hv;have HP:=hd_ hp;have HZ:=hd_ hz;clear he hH hv hp hz;go_enter func141,ntmps141;go_wp2_with fail;go_loopw [6] (fun i wr=>∃ k:Nat,i=.int .i64 k∧k≤l.length∧Hid ((∀ j (hj:j<l.length),j<k→l[j].path≠p∧¬ 0<z2u l[j].path p)∧Below w.heap.size w wr)) (fun i _=>l.length - (intOf i).toNat)
 case atStart=>exact⟨0,rfl,Nat.zero_le _,hd_ ⟨fun j _ h=>by omega,Below.refl _ _⟩⟩
 case round =>
  obtain⟨k,rfl,hk,HI⟩:=hrel;by_cases hlt:k<l.length
  ·obtain⟨ad,rfl,hab,s0,-,-⟩:=z4b.at_ (HH.out.under HI.out.2) hlt;have HVK:=hd_ (HV.out l[k] (List.getElem_mem hlt));have HAT:=hd_ (zlt (p:=p) hlt HI.out.1);have HNX:Hid (l[k].path≠p→¬ 0<z2u l[k].path p→∀ j (hj:j<l.length),j<k+1→l[j].path≠p∧¬ 0<z2u l[j].path p):=hd_ fun h1 h2 j hj hjk=>by
    by_cases e:j=k
    ·subst e;exact⟨h1,h2⟩
    ·exact HI.out.1 j hj (by omega)
   generalize l[k].path=q at s0 HVK HAT HNX;have HOR:=hd_ (zhp q p wr (HE.out.below HI.out.2) (by have:=HVK.out.2;omega) (by have:=HZ.out;omega))
   rw[zho HVK.out.1 HP.out] at HOR;have HB:=hd_ HI.out.2;have HLT:=hd_ hlt;by_cases h1:q=p
   ·have q1:(q.toList == p.toList)=true:=by rw[z3x,decide_eq_true h1]
    have HR:=hd_ (HAT.out.1 h1);clear h1;go_wp2_with fail;go_ret2;rw[HR.out];exact⟨rfl,HB.out⟩
   ·have q1:(q.toList == p.toList)=false:=by rw[z3x,decide_eq_false h1]
    have HN1:=hd_ h1;clear h1;obtain⟨n,hn⟩:∃ n,z2u q p=n:=⟨_,rfl⟩;have HN:=hd_ hn;rw[hn] at HOR;clear hn;by_cases h2:0<n
    ·have q2:decide (0<n)=true:=decide_eq_true h2;have HR:=hd_ (HAT.out.2 HN1.out (by rw[HN.out];exact h2))
     clear h2;go_wp2_with fail;refine HOR.out.mono ?_;rintro e w2 ⟨rfl,hb⟩;have HB2:=hd_ (z0r HB.out hb);clear hb s0;go_wp2_with fail;go_ret2;rw[HR.out];exact⟨rfl,HB2.out⟩
    ·have q2:decide (0<n)=false:=decide_eq_false h2;have HR:=hd_ (HNX.out HN1.out (by rw[HN.out];exact h2))
     clear h2;go_wp2_with fail;refine HOR.out.mono ?_;rintro e w2 ⟨rfl,hb⟩;have HB2:=hd_ (z0r HB.out hb);clear hb s0;go_wp2_with fail;go_roundw
     case rel=>exact⟨k+1,by go_num,by have:=HLT.out;omega,hd_ ⟨fun j hj h=>⟨(HR.out j hj h).1,Int.not_lt.2 (HR.out j hj h).2⟩,HB2.out⟩⟩
     case measure=>have:=HLT.out;simp [intOf];omega
  ·have hke:k=l.length:=by omega
   have HR:=hd_ (zlu (l:=l) (p:=p) fun j hj=>HI.out.1 j hj (by omega))
   have HB:=hd_ HI.out.2;subst hke;clear HI;go_wp2_with fail;go_ret2;rw[HR.out];exact⟨rfl,HB.out⟩
structure zmr (D:List Rev)(n:Nat):Prop where
 len:D.length≤n
 six:∀ r∈D,r.path∈zff
 num:∀ p (i:Nat) (h:i<(zgp D p).length),(zgp D p)[i].num=(i:Int)+1
theorem dp_nil:zmr [] 0:=⟨Nat.le_refl _,(fun r h=>by cases h),fun p i h=>by simp [zgp] at h⟩
theorem zms {D:List Rev}{n:Nat}(h:zmr D n)(p:ByteArray):(zec (zgs D p)).num=((zgp D p).length:Int):=by
 unfold zgs zec;rcases Nat.eq_zero_or_pos (zgp D p).length with h0 | h0
 ·rw[List.eq_nil_of_length_eq_zero h0];rfl
 ·rw[List.getLast?_eq_getElem?,List.getElem?_eq_getElem (by omega),Option.getD_some,h.num p _ (by omega)]
  omega
theorem zmt {D:List Rev}{n:Nat}(h:zmr D n):∀ r∈D,1≤r.num:=fun r hr=>by
 obtain⟨i,hi,e⟩:=List.getElem_of_mem (zgq.2 ⟨hr,rfl⟩:r∈zgp D r.path);have:=h.num r.path i hi;rw[e] at this;omega
theorem zmu {p:ByteArray}:∀ {L:List Rev},(L.map (·.path)).Nodup→zgp L p=[]∨∃ r∈L,r.path=p∧zgp L p=[r]
 | [],_=>.inl rfl
 | r :: L,h=>by
  rw[List.map_cons,List.nodup_cons] at h;have e:zgp (r :: L) p=(if r.path=p then [r] else [])++zgp L p:=by
   unfold zgp;by_cases hp:r.path=p
   ·rw[if_pos hp,List.filter_cons_of_pos (by simpa using hp)];rfl
   ·rw[if_neg hp,List.filter_cons_of_neg (by simpa using hp)];rfl
  rw[e];by_cases hp:r.path=p
  ·rw[if_pos hp];have:zgp L p=[]:=by
    cases hl:zgp L p with
    | nil=>rfl
    | cons v l =>
     have hv:v∈zgp L p:=by rw[hl];exact List.mem_cons_self ..
     obtain⟨h1,h2⟩:=zgq.1 hv;exact absurd (List.mem_map.2 ⟨v,h1,h2.trans hp.symm⟩) h.1
   rw[this];exact .inr ⟨r,List.mem_cons_self ..,hp,rfl⟩
  ·rw[if_neg hp];rcases zmu (p:=p) h.2 with h1 | ⟨v,h1,h2,h3⟩
   ·exact .inl h1
   ·exact .inr ⟨v,List.mem_cons_of_mem _ h1,h2,h3⟩
theorem dp_app {D:List Rev}{n:Nat}{es:List Edt}(h:zmr D n)(m:Int)(h6:∀ x∈es,x.path∈zff)(hn:(es.map (·.path)).Nodup)(hb:∀ x∈es,x.base=(zec (zgs D x.path)).num):zmr (D++es.map (zhy m)) (n+es.length):=by
 refine⟨by rw[List.length_append,List.length_map];have:=h.len;omega,fun r hr=>?_,fun p i hi=>?_⟩
 ·rcases List.mem_append.1 hr with hr | hr
  ·exact h.six r hr
  ·obtain⟨x,hx,rfl⟩:=List.mem_map.1 hr;exact h6 x hx
 ·have hl:zgp (es.map (zhy m)) p=[]∨∃ r∈es.map (zhy m),r.path=p∧zgp (es.map (zhy m)) p=[r]:=zmu (by rw[List.map_map];exact hn)
  have e:=zgr D (es.map (zhy m)) p;rcases hl with hl | ⟨r,hr,hp,hl⟩
  ·rw[hl,List.append_nil] at e;have hi2:i<(zgp D p).length:=by rw[← e];exact hi
   have:=h.num p i hi2;rw[← this];congr 1
   simp only[e]
  ·rw[hl] at e;have hi2:i<(zgp D p).length+1:=by have:=congrArg List.length e;rw[List.length_append,List.length_singleton] at this;omega
   by_cases hlt:i<(zgp D p).length
   ·rw[← h.num p i hlt];congr 1
    simp only[e]
    rw[List.getElem_append_left]
   ·have hie:i=(zgp D p).length:=by omega
    obtain⟨x,hx,rfl⟩:=List.mem_map.1 hr;have hnum:(zhy m x).num=(i:Int)+1:=by
     show x.base+1=_
     have hp':x.path=p:=hp;rw[hb x hx,hp',zms h,hie]
    rw[← hnum];congr 1
    simp only[e]
    rw[List.getElem_append_right (by omega)]
    simp [hie]
theorem dp_at {D:List Rev}{n:Nat}(h:zmr D n)(p:ByteArray)(m:Int):zec (z30 D p (fun v=>decide (v.chg≤m)))=rAt D p m∧(z30 D p (fun v=>decide (v.chg≤m))).isSome=decide (0<(rAt D p m).num):=by
 rw[zh3,zh2];refine zh4 m p (zgp D p) none ?_ (fun v hv=>⟨?_,(zgq.1 hv).2⟩) (fun b hb=>by cases hb)
 ·rw[List.pairwise_iff_getElem];intro i j hi hj hij;rw[h.num p i hi,h.num p j hj];omega
 ·have:=zmt h v (zgq.1 hv).1;omega
end Go.Proofs.YtegeboijhifmcaaGreatDoor
