/- A part. -/
import Derived.Test.YtijghobkkdbhnaaGreatDoorMcw24
import Derived.Test.YtijghobkkdbhnaaGreatDoorMcw22
import Derived.Test.YtijghobkkdbhnaaGreatDoorMcw21
set_option linter.unusedVariables false
set_option linter.unusedSimpArgs false
set_option maxHeartbeats 8000000
set_option maxRecDepth 100000
namespace Go.Proofs.YtijghobkkdbhnaaGreatDoor
open Go.Proofs.Tryz
open Go.RowKit
def zhr (es:List Edt)(x:Edt):Nat:=es.countP fun y=>(decide (x.act=5) && decide (y.act=4) && decide (y.frm=x.path)) || (decide (x.act=4) && decide (y.act=5) && decide (y.path=x.frm))
def zhs (es:List Edt)(x:Edt):Bool:=decide (zhr es x=1) || (decide (x.act≠5) && decide (x.act≠4))
open Go.Sort (grow)
section
variable {u0 u1 u2 u3 u4 u5 u6 u7 u8 u9 gA gC gD gE gF gG gH gI gJ gK gL gM gN gO gP gQ gR gT gV gW gX gY gZ i6 i7 i8 ia ib ic ie ig ii ij ik il im io ip iq ir iu iv iw ix iy iz iA iB iC iD iE iF iG iH iI iJ iK iL iM iN iO iP iQ iR iS iT iU iV iW iX iY iZ j0 j1 j2 j5 j6 j7 j8 j9 jb jd jf jg jh ji jj jk jl jm bE bF bG bH bI bJ bK bL bM bN bO bP bQ bT bU bV bW bX bY bZ cj ck cn cx cy cz cA : Value}
theorem intElem:z0e prog 22 3 1 8:=z0f underlying22 (z:=.int .i64 0) (by kernel_rfl) rfl (by decide)
structure Bk1 (X wr:World)(bS bC:Nat)(F:ByteArray→Option Nat)(f:ByteArray→List Nat):Prop where
 low:zB X wr
 st:z2k Value.string natV wr bS F
 com:zjz wr X.heap.size wr.heap.size bC f
 ne:bS≠bC
 leC:X.heap.size≤bC
theorem Bk1.under {X wr wx:World}{bS bC:Nat}{F:ByteArray→Option Nat}{f:ByteArray→List Nat}(h:Bk1 X wr bS bC F f)(hb:zB wr wx):Bk1 X wx bS bC F f:=
 ⟨z0r h.low hb,h.st.below hb,(h.com.keep fun x hx _=>hb.block x hx).upTo hb.size,h.ne,h.leC⟩
theorem zk8 {w:World}{B g:Nat}{e e2:TypeId}{size n:Nat}{v:Value}{xs cs:List Value}(h:w.ownsRow B e size v n xs)(hb:Blk w g e2 cs)(he:e≠e2):v.ownBlock≠some g:=by
 intro hx;rcases h.2 with⟨rfl,_⟩ | ⟨g',cap,cur,rfl,_,hg,_⟩
 ·cases hx
 ·injection hx with hx
  have hx':g'=g:=hx;subst hx';have hb':w.heap[g']? = _:=hb;rw[hg] at hb';injection hb' with hb'
  injection hb' with _ e1
  exact he e1
theorem bkR7 (ops:Array Oper)(hops:Tryz.f47.body.bind (z0x 7)=some ops)(Q:Exit→Act→World→Prop)(X V1:World)(g7 bS bC:Nat)(F:ByteArray→Option Nat)(f:ByteArray→List Nat)(x:Syn)(i:Nat)
  (hI:Bk1 X V1 bS bC F f) (hx:Blk V1 g7 50 [.int .i64 x.kind,.string x.path,.int .i64 x.num,.string x.frm,.string x.dst]) (hf:(f x.dst).length≤1000000) (hX:X.heap.size≤V1.heap.size)
  (hQ:∀(eP eQ eR eS eT eU eV eW eX eY:Value) (w':World),Hid (Bk1 X w' bS bC F (putF f x.dst i))→Q .normal ⟨#[u0,u1,u2,u3,u4,.map (some bC),.int .i64 i,.pointer (some ⟨g7,0,none⟩),u8,u9,gA,gC,gD,gE,gF,gG,gH,gI,gJ,gK,gL,gM,gN,gO,gP,gQ,gR,gT,gV,gW,gX,gY,eP,eQ,eR,eS,eT,eU,eV,eW,eX,eY,ij,ik,il,im,io,ip,iq,ir,iu,iv,iw,ix,iy,iz,iA,iB,iC,iD,iE,iF,iG,iH,iI,iJ,iK,iL,iM,iN,iO,iP,iQ,iR,iS,iT,iU,iV,iW,iX,iY,iZ,j0,j1,j2,j5,j6,j7,j8,j9,jb,jd,jf,jg,jh,ji,jj,jk,jl,jm,bE,bF,bG,bH,bI,bJ,bK,bL,bM,bN,bO,bP,bQ,bT,bU,bV,bW,bX,bY,bZ,cj,ck,cn,cx,cy,cz,cA],[]⟩ w'):
  (Code.region 7 ops true).wp prog Q ⟨#[u0,u1,u2,u3,u4,.map (some bC),.int .i64 i,.pointer (some ⟨g7,0,none⟩),u8,u9,gA,gC,gD,gE,gF,gG,gH,gI,gJ,gK,gL,gM,gN,gO,gP,gQ,gR,gT,gV,gW,gX,gY,gZ,i6,i7,i8,ia,ib,ic,ie,ig,ii,ij,ik,il,im,io,ip,iq,ir,iu,iv,iw,ix,iy,iz,iA,iB,iC,iD,iE,iF,iG,iH,iI,iJ,iK,iL,iM,iN,iO,iP,iQ,iR,iS,iT,iU,iV,iW,iX,iY,iZ,j0,j1,j2,j5,j6,j7,j8,j9,jb,jd,jf,jg,jh,ji,jj,jk,jl,jm,bE,bF,bG,bH,bI,bJ,bK,bL,bM,bN,bO,bP,bQ,bT,bU,bV,bW,bX,bY,bZ,cj,ck,cn,cx,cy,cz,cA],[]⟩ V1:=by
 simp only[Tryz.f47,Option.bind_some,z0x] at hops
 simp at hops
 subst hops;obtain⟨A,c,hlk,hrow,hup,hback⟩:=hI.com.look x.dst;have hbC:bC<V1.heap.size:=by obtain⟨g,hg⟩:=hI.com;exact hg.map.lt
 have hnr:=zk8 hrow hx (by decide)
 have HL:Hid (∀ W,zB V1 W→(Instr.lookup 163 (.map (some bC)) (.string x.dst) false).run prog W=.ok (.slice A (f x.dst).length c) W):=hd_ fun W hW=>hlk W (hW.block bC hbC);have HX:Hid (∀ W,zB V1 W→W.cell? ⟨g7,4,none⟩=some (.string x.dst)):=hd_ fun W hW=>(hx.below hW hx.lt).cell 4;have HX2:Hid (∀ Y W,zB V1 Y→Y.grownBy W (Value.slice A (f x.dst).length c).ownBlock→W.cell? ⟨g7,4,none⟩=some (.string x.dst)):=hd_ fun Y W hY hG=>((hx.below hY hx.lt).grown hG (fun e=>hnr e.symm)).cell 4;have HROW:Hid (∀ W,zB V1 W→W.ownsRow X.heap.size 3 1 (.slice A (f x.dst).length c) (f x.dst).length (zjv (f x.dst))):=hd_ fun W hW=>z0n hrow hW;have HEND:Hid (∀(Y W:World) (A':Option Addr) (c':Nat),zB V1 Y→Y.grownBy W (Value.slice A (f x.dst).length c).ownBlock→W.ownsRow X.heap.size 3 1 (.slice A' ((f x.dst).length+1) c') ((f x.dst).length+1) (zjv (f x.dst)++[.int .i64 i]) →
   ((Value.slice A' ((f x.dst).length+1) c').ownBlock=(Value.slice A (f x.dst).length c).ownBlock∨(Value.slice A' ((f x.dst).length+1) c').ownBlock=some Y.heap.size) →
   ∃ W2,(Instr.mapUpdate 163 (.map (some bC)) (.string x.dst) (.slice A' ((f x.dst).length+1) c')).run prog W=.ok () W2∧Bk1 X W2 bS bC F (putF f x.dst i)):=hd_ fun Y W A' c' hY hG hO hB=>by
  have hg1:V1.grownBy W (Value.slice A (f x.dst).length c).ownBlock:=⟨hG.os.trans hY.os,hG.tape.trans hY.tape,hG.output.trans hY.output,Nat.le_trans hY.size hG.size,fun k hk hne=>(hG.block k (Nat.lt_of_lt_of_le hk hY.size) hne).trans (hY.block k hk)⟩;obtain⟨W2,h1,h2,h3,h4⟩:=hback W A' c' _ i W.heap.size hg1 rfl hO (Nat.le_refl _) hg1.size (Nat.le_refl _) (by
   rcases hB with e | e
   ·exact .inl e
   ·exact .inr ⟨_,e,hY.size⟩)
  have hrb:∀ k,(Value.slice A (f x.dst).length c).ownBlock=some k→X.heap.size≤k:=fun k hk=>(hup k hk).2;obtain⟨es,cc,hm⟩:=zjy hI.st;have hbS:(Value.slice A (f x.dst).length c).ownBlock≠some bS:=fun e=>zjx hrow e hm;have hl1:zB X W:=hI.low.grown hg1 hX hrb;exact⟨W2,h1,⟨hl1.grown h3 (Nat.le_trans hX hg1.size) (fun k e=>by injection e with e;have:=hI.leC;omega),(hI.st.grown hg1 (fun e=>hbS e.symm)).grown h3 (fun e=>hI.ne (by injection e)),by rw[h4];exact h2,hI.ne,hI.leC⟩⟩
 have HQ:=hd_ hQ;have hdr:zB V1 V1.drew:=(Below.refl _ _).drew;have hda:zB V1 (V1.alloc (.cells #[.int .i64 i] 3)).drew:=(z0u (Below.refl _ _) _).drew;have HDA:=hd_ hda;have x1:=HX.out V1 (Below.refl _ _);have x2:=HX.out _ hda;have l1:=HL.out _ hdr;have l2:=HL.out _ hda;have HF:=hd_ hf;have HSZ:Hid (X.heap.size≤(V1.alloc (.cells #[.int .i64 i] 3)).drew.heap.size):=hd_ (Nat.le_trans hX hda.size);clear hQ hI hx hlk hrow hup hback hdr hda hf hX hbC hnr;generalize f x.dst=fl at *;refine wp_region_noPanic ?_;go_region_law (first
  | (refine z0t (base:=X.heap.size) rfl rfl intElem (HROW.out _ HDA.out) (by simp [Act.eval,Act.put];done) (Row.drew (z0i V1 [.int .i64 i] _ 1 1 rfl (by decide) _ rfl)) (by simp [Act.eval,Act.put];done) (by simp [Value.oneCell']) (by have:=HF.out;omega) (by have:=HF.out;unfold maxLen;omega) HSZ.out ?_;intro A6 c6 w6 hO6 hG6 hw6;have x6:=HX2.out _ _ HDA.out hG6;obtain⟨W2,hup2,hfin⟩:=HEND.out _ _ _ _ HDA.out hG6 hO6 hw6))
 all_goals exact NoPanic.normal (HQ.out _ _ _ _ _ _ _ _ _ _ _ (hd_ hfin))
end
def zki (w:World)(pl:List Syn)(e:Ending)(w':World):Prop:=∃ v,e=.returned (.tuple #[v,.int .i64 0])∧z57 w' v pl∧zB w w'
theorem zkj:∀(n:Nat) (hs ws:List Hav),(z6o n hs ws).length≤n:=by
 intro n;induction n with
 | zero=>intro hs ws;exact Nat.le_refl _
 | succ n ih =>
  intro hs ws;cases hs with
  | nil =>
   cases ws with
   | nil=>exact Nat.zero_le _
   | cons y ws=>exact Nat.succ_le_succ (ih [] ws)
  | cons x hs =>
   cases ws with
   | nil=>exact Nat.succ_le_succ (ih hs [])
   | cons y ws =>
    unfold z6o;split
    ·exact Nat.succ_le_succ (ih _ _)
    ·split
     ·exact Nat.succ_le_succ (ih _ _)
     ·split
      ·exact Nat.le_succ_of_le (ih _ _)
      ·exact Nat.succ_le_succ (ih _ _)
theorem zkk {hs ws:List Hav}{op dt:List ByteArray}(h1:zek hs)(h2:zek ws):∀ x∈zes hs ws op dt,x.frm=zjg hs x.path:=by
 intro x hx;obtain⟨i1,i2⟩:=zex (op:=op) (dt:=dt) h1 h2;have hg:z6l (zes hs ws op dt) x.path=some x:=z6b i1 hx;rw[i2,Option.map_eq_some_iff] at hg;obtain⟨y,e1,e2⟩:=hg;have e3:x.frm=y.frm:=by rw[← e2];rfl
 rw[e3];unfold zjg;rcases zew e1 with⟨a,e4,-,rfl⟩ | ⟨b,e4,-,rfl⟩ | ⟨a,b,e4,-,-,rfl⟩
 ·rw[e4];rfl
 ·rw[e4];rfl
 ·rw[e4];rfl
theorem zkl {hs:List Hav}(h:zek hs):∀ x∈hs,x.path.size≤200∧x.loc.size≤200:=fun x hx=>by
 obtain⟨h1,h2,-⟩:=zel (h.ok x hx);exact⟨(zem h1).2.1,(zem h2).2.1⟩
theorem zlq {x y:ByteArray}(hy:z7b y=false):z9u x y=decide (x=y):=by
 unfold z9u;rw[hy];by_cases h:x=y
 ·rw[if_pos h,decide_eq_true h]
 ·rw[if_neg h,decide_eq_false h];rfl
theorem zlr {x y:ByteArray}(hx:z7b x=true)(hy:z7b y=true):z9u x y=Lib.hasSuffix (z82 x).data.toList (z82 y).data.toList:=by
 unfold z9u;rw[hx,hy];by_cases h:x=y
 ·rw[if_pos h,h];symm
  unfold Lib.hasSuffix;exact List.isSuffixOf_iff_suffix.2 (List.suffix_refl _)
 ·rw[if_neg h];rfl
theorem zls {x y:ByteArray}(hx:z7b x=false)(hy:z7b y=true):z9u x y=z84 y x:=by
 unfold z9u;rw[hx,hy];rw[if_neg (fun h=>by rw[h,hy] at hx;cases hx)];rfl
theorem zlt {x:ByteArray}(h:z7d x≠0)(hx:z7b x=false):z12 x=true:=by
 unfold z7d at h;rw[hx] at h;cases hc:z12 x with
 | true=>rfl
 | false=>rw[hc] at h;exact absurd rfl h
theorem zlu (x y:ByteArray)(w:World)(hx:z7d x≠0)(hy:z7d y≠0)(zx:x.size≤1000000)(zy:y.size≤1000000):
  Calls prog 117 #[.string x,.string y] w fun e w'=>e=.returned (.bool (z9u x y))∧zB w w':=by
 have HX:=hd_ (fun X=>zc4 x X (by unfold maxLen;omega))
 have HY:=hd_ (fun X=>zc4 y X (by unfold maxLen;omega))
 have HC:=hd_ (fun X=>zc7 y x X (by unfold maxLen;omega) (by unfold maxLen;omega))
 have HS:=hd_ (fun X=>hasSR (z82 x) (z82 y) X _ (by unfold z82;rw[ByteArray.size_extract];omega) rfl)
 unfold zc1 at HX HY;rw[zbs hx] at HX;rw[zbs hy] at HY;cases hsy:z7b y with
 | false =>
  have HR:=hd_ (zlq (x:=x) hsy);have HE:=hd_ (z86 x y);rw[hsy] at HY;clear hsy HC HS;generalize z7b x=sx at HX;generalize (if sx=true then z82 x else z2q)=ux at HX;go_enter func117,ntmps117;go_wp2_with fail;refine (HX.out _).mono ?_;rintro e w' ⟨rfl,rfl⟩;go_wp2_with fail;refine (HY.out _).mono ?_;rintro e w' ⟨rfl,rfl⟩;go_wp2_with fail;go_ret;exact⟨by rw[HR.out,← HE.out];rfl,Below.refl _ _⟩
 | true =>
  cases hsx:z7b x with
  | true =>
   have HR:=hd_ (zlr hsx hsy);rw[hsy] at HY;rw[hsx] at HX;rw[if_pos rfl] at HX HY;clear hsy hsx HC;generalize z82 x=ux at HX HS HR;generalize z82 y=uy at HY HS HR;generalize Lib.hasSuffix ux.data.toList uy.data.toList=b at HS HR;go_enter func117,ntmps117;go_wp2_with fail;refine (HX.out _).mono ?_;rintro e w' ⟨rfl,rfl⟩;go_wp2_with fail;refine (HY.out _).mono ?_;rintro e w' ⟨rfl,rfl⟩;go_wp2_with fail;refine (HS.out _).mono ?_;rintro e w' ⟨rfl,rfl⟩;go_wp2_with fail;go_ret;exact⟨by rw[HR.out];rfl,Below.refl _ _⟩
  | false =>
   have HR:=hd_ (zls hsx hsy);rw[zbx hy (zlt hx hsx)] at HC;rw[hsy] at HY;rw[hsx] at HX;clear hsy hsx HS;rw[if_pos rfl] at HY;generalize z82 y=uy at HY;generalize z84 y x=b at HC HR;generalize zbo y x=c at HC;go_enter func117,ntmps117;go_wp2_with fail;refine (HX.out _).mono ?_;rintro e w' ⟨rfl,rfl⟩;go_wp2_with fail;refine (HY.out _).mono ?_;rintro e w' ⟨rfl,rfl⟩;go_wp2_with fail;refine (HC.out _).mono ?_;rintro e w' ⟨rfl,rfl⟩;go_wp2_with fail;go_ret;exact⟨by rw[HR.out];rfl,Below.refl _ _⟩
theorem z9s.onto {S:List Nat}{w W w':World}(h:z9s S w W)(hb:Below w.heap.size W w'):z9s S w w':=
 ⟨hb.os.trans h.os,hb.tape.trans h.tape,hb.output.trans h.output,Nat.le_trans h.size hb.size,fun k hk hs=>(hb.block k hk).trans (h.block k hk hs)⟩
theorem zg0.onto {w W w':World}{U g m:Nat}(h:zg0 W U g m)(hU:U≤w.heap.size)(hb:Below w.heap.size W w'):zg0 w' U g m:=h.keep hb.size fun x hx=>hb.block x (by omega)
def WtPost (w:World)(U g m:Nat)(e:Ending)(w':World):Prop:=∃ ty:Ty,e=.returned ty.val∧zg0 w' U g m∧z9s [g] w w'
theorem wt_ret (U g m:Nat)(w w2:World)(ty:Ty)(hB:Blk w2 w.heap.size 85 [.int .i64 0,.bool false,.bool false,.bool false])(hT:zg0 w2 U g m)(hK:z9s [g] w w2)(hU:U≤w.heap.size)(u0 u1 u3 u4 u5 u6 u7 u8 u9 gA gC gD gE gF gG gH:Value):
  bodyPost prog Tryz.f108 (WtPost w U g m) .ret ⟨#[u0,u1,.pointer (some ⟨w.heap.size,0,none⟩),u3,u4,u5,u6,u7,u8,u9,gA,gC,gD,gE,gF,gG,gH],[]⟩ ((((w2.setCell ⟨w.heap.size,0,none⟩ (.int .i64 ty.base)).setCell ⟨w.heap.size,1,none⟩ (.bool ty.k)).setCell ⟨w.heap.size,2,none⟩ (.bool ty.l)).setCell ⟨w.heap.size,3,none⟩ (.bool ty.x)):=by
 have hE:=(((hB.set_ 0 (.int .i64 ty.base)).set_ 1 (.bool ty.k)).set_ 2 (.bool ty.l)).set_ 3 (.bool ty.x);have hb:=(((((Below.refl w.heap.size w2).setCell (p:=⟨w.heap.size,0,none⟩) (by simp) (.int .i64 ty.base)).setCell (p:=⟨w.heap.size,1,none⟩) (by simp) (.bool ty.k)).setCell (p:=⟨w.heap.size,2,none⟩) (by simp) (.bool ty.l)).setCell (p:=⟨w.heap.size,3,none⟩) (by simp) (.bool ty.x))
 generalize (((w2.setCell ⟨w.heap.size,0,none⟩ (.int .i64 ty.base)).setCell ⟨w.heap.size,1,none⟩ (.bool ty.k)).setCell ⟨w.heap.size,2,none⟩ (.bool ty.l)).setCell ⟨w.heap.size,3,none⟩ (.bool ty.x)=W8 at hE hb ⊢;have e0:=hE.cell 0;have e1:=hE.cell 1;have e2:=hE.cell 2;have e3:=hE.cell 3;exact bodyPost_ret (v:=ty.val) (by simp [results,results108,go_sem,e0,e1,e2,e3,Ty.val]) rfl ⟨ty,rfl,hT.onto hU hb,hK.onto hb⟩
theorem zmb (U g m:Nat)(w:World)(hT:zg0 w U g m)(hU:U≤w.heap.size)(hm:m≤100000):
  Calls prog 108 #[.pointer (some ⟨g,0,none⟩)] w (WtPost w U g (m+1)):=by
 have hg:=hT.lt;obtain⟨W1,hW1⟩:∃ W,W=(w.alloc (.cells #[.int .i64 0,.bool false,.bool false,.bool false] 85)).alloc (.cells #[.int .i64 1,.bool false,.bool false,.bool false,.int .i64 2,.bool false,.bool false,.bool false,.int .i64 1,.bool true,.bool false,.bool false,.int .i64 2,.bool false,.bool false,.bool true,.int .i64 3,.bool false,.bool false,.bool false] 85):=⟨_,rfl⟩;have hA:zB w W1:=by rw[hW1];exact ((Below.refl _ _).alloc (Nat.le_refl _) _).alloc (by simp) _
 have hB0:Blk W1 w.heap.size 85 [.int .i64 0,.bool false,.bool false,.bool false]:=by rw[hW1];exact (z0l w _ _).alloc _
 have hB1:Blk W1 (w.heap.size+1) 85 [.int .i64 1,.bool false,.bool false,.bool false,.int .i64 2,.bool false,.bool false,.bool false,.int .i64 1,.bool true,.bool false,.bool false,.int .i64 2,.bool false,.bool false,.bool true,.int .i64 3,.bool false,.bool false,.bool false]:=by
  rw[hW1];have:=z0l (w.alloc (.cells #[.int .i64 0,.bool false,.bool false,.bool false] 85)) [.int .i64 1,.bool false,.bool false,.bool false,.int .i64 2,.bool false,.bool false,.bool false,.int .i64 1,.bool true,.bool false,.bool false,.int .i64 2,.bool false,.bool false,.bool true,.int .i64 3,.bool false,.bool false,.bool false] 85;simp only[World.size_alloc] at this
  exact this
 have HN:=hd_ (zg1 U g m 5 W1 (hT.below hA) (by omega) (by omega))
 have HW:=hd_ hW1;have HB:=hd_ (And.intro hB0 hB1);have HA:=hd_ (z9s.below (S:=[g]) hA);have HU:=hd_ hU;have HG:Hid (w.heap.size∉[g]∧w.heap.size+1∉[g]):=hd_ (by simp;omega)
 clear hT hA hW1 hB0 hB1 hU;go_enter func108,ntmps108;go_upto_region 2 with fail;rw[← HW.out];go_wp2_with fail;refine HN.out.mono ?_;rintro e w2 ⟨k,rfl,hk,hT2,hK2⟩;dsimp only;have HX:Hid (Blk _ _ _ _):=hd_ (hK2.blk HB.out.1 HG.out.1);have hY:=hK2.blk HB.out.2 HG.out.2;obtain⟨y0,y1,y2,y3,y4,y5,y6,y7,y8,y9⟩:=(⟨hY.cell 0,hY.cell 1,hY.cell 2,hY.cell 3,hY.cell 4,hY.cell 5,hY.cell 6,hY.cell 7,hY.cell 8,hY.cell 9⟩:w2.cell? ⟨w.heap.size+1,0,none⟩=some (.int .i64 1)∧w2.cell? ⟨w.heap.size+1,1,none⟩=some (.bool false)∧w2.cell? ⟨w.heap.size+1,2,none⟩=some (.bool false)∧w2.cell? ⟨w.heap.size+1,3,none⟩=some (.bool false)∧w2.cell? ⟨w.heap.size+1,4,none⟩=some (.int .i64 2)∧w2.cell? ⟨w.heap.size+1,5,none⟩=some (.bool false)∧w2.cell? ⟨w.heap.size+1,6,none⟩=some (.bool false)∧w2.cell? ⟨w.heap.size+1,7,none⟩=some (.bool false)∧w2.cell? ⟨w.heap.size+1,8,none⟩=some (.int .i64 1)∧w2.cell? ⟨w.heap.size+1,9,none⟩=some (.bool true));obtain⟨z0,z1,z2,z3,z4,z5,z6,z7,z8,z9⟩:=(⟨hY.cell 10,hY.cell 11,hY.cell 12,hY.cell 13,hY.cell 14,hY.cell 15,hY.cell 16,hY.cell 17,hY.cell 18,hY.cell 19⟩:w2.cell? ⟨w.heap.size+1,10,none⟩=some (.bool false)∧w2.cell? ⟨w.heap.size+1,11,none⟩=some (.bool false)∧w2.cell? ⟨w.heap.size+1,12,none⟩=some (.int .i64 2)∧w2.cell? ⟨w.heap.size+1,13,none⟩=some (.bool false)∧w2.cell? ⟨w.heap.size+1,14,none⟩=some (.bool false)∧w2.cell? ⟨w.heap.size+1,15,none⟩=some (.bool true)∧w2.cell? ⟨w.heap.size+1,16,none⟩=some (.int .i64 3)∧w2.cell? ⟨w.heap.size+1,17,none⟩=some (.bool false)∧w2.cell? ⟨w.heap.size+1,18,none⟩=some (.bool false)∧w2.cell? ⟨w.heap.size+1,19,none⟩=some (.bool false));obtain⟨x0,x1,x2,x3⟩:=(⟨HX.out.cell 0,HX.out.cell 1,HX.out.cell 2,HX.out.cell 3⟩:w2.cell? ⟨w.heap.size,0,none⟩=some (.int .i64 0)∧w2.cell? ⟨w.heap.size,1,none⟩=some (.bool false)∧w2.cell? ⟨w.heap.size,2,none⟩=some (.bool false)∧w2.cell? ⟨w.heap.size,3,none⟩=some (.bool false));obtain⟨f0,f1,f2,f3⟩:=(⟨HX.out.frozen 0,HX.out.frozen 1,HX.out.frozen 2,HX.out.frozen 3⟩:w2.frozen? ⟨w.heap.size,0,none⟩=false∧w2.frozen? ⟨w.heap.size,1,none⟩=false∧w2.frozen? ⟨w.heap.size,2,none⟩=false∧w2.frozen? ⟨w.heap.size,3,none⟩=false)
 have h5:k=0∨k=1∨k=2∨k=3∨k=4:=by obtain⟨a,b,-⟩:=hk;have:=b (by omega);omega
 have HT2:=hd_ hT2;have HK2:=hd_ (HA.out.trans hK2);have HFI:=hd_ (fun ty=>wt_ret U g (m+1) w w2 ty HX.out HT2.out HK2.out HU.out);clear hk hT2 hK2 hY HN;rcases h5 with rfl | rfl | rfl | rfl | rfl
 ·go_wp2_with fail;exact HFI.out ⟨1,false,false,false⟩ _ _ _ _ _ _ _ _ _ _ _ _ _ _ _ _
 ·go_wp2_with fail;exact HFI.out ⟨2,false,false,false⟩ _ _ _ _ _ _ _ _ _ _ _ _ _ _ _ _
 ·go_wp2_with fail;exact HFI.out ⟨1,true,false,false⟩ _ _ _ _ _ _ _ _ _ _ _ _ _ _ _ _
 ·go_wp2_with fail;exact HFI.out ⟨2,false,false,true⟩ _ _ _ _ _ _ _ _ _ _ _ _ _ _ _ _
 ·go_wp2_with fail;exact HFI.out ⟨3,false,false,false⟩ _ _ _ _ _ _ _ _ _ _ _ _ _ _ _ _
theorem zn1 (p:Pat)(A:Option Addr)(c:Nat)(w:World)(hp:z9j w (.slice A p.parts.length c) p)(hn:zcg p):
  Calls prog 165 #[.agg #[.slice A p.parts.length c,.bool true]] w fun e w'=>e=.returned (.int .i64 1)∧zB w w':=by
 have hA:zB w (w.alloc (.cells #[.slice A p.parts.length c,.bool true] 68)):=(Below.refl _ _).alloc (Nat.le_refl _) _;have h2:zb5 (w.alloc (.cells #[.slice A p.parts.length c,.bool true] 68)) w.heap.size (.slice A p.parts.length c) true:=z0l w [.slice A p.parts.length c,.bool true] 68;have HK:Hid (Calls prog 61 #[.agg #[.slice A p.parts.length c,.bool true]] (w.alloc (.cells #[.slice A p.parts.length c,.bool true] 68)) fun e w'=>e=.returned (.tuple #[.int .i64 0,.bool true])∧Below (w.alloc (.cells #[.slice A p.parts.length c,.bool true] 68)).heap.size (w.alloc (.cells #[.slice A p.parts.length c,.bool true] 68)) w'):=hd_ (by
  have:=zmv p A c _ (hp.below hA) hn.pat;rw[hn.rest] at this;refine this.mono ?_;rintro e w' ⟨rfl,hb⟩;rw[zcn hn,hn.rest];exact⟨rfl,hb⟩)
 have HA:=hd_ hA;have x0:=h2.c0;have x1:=h2.c1;clear hp hn hA h2;go_enter func165,ntmps165;go_wp2_with fail;refine HK.out.mono ?_;rintro e w2 ⟨rfl,hb⟩;dsimp only;have HB:=hd_ (z0r HA.out hb);clear hb x0 x1;go_wp2_with fail;go_ret;exact⟨rfl,HB.out⟩
theorem Row.empty {w w':World}{size n:Nat}{v:Value}{xs:List Value}(h:Row w size v n xs)(hn:n=0):Row w' size v n xs:=by
 obtain⟨A,c,e,hc,hm,hl,h0,-⟩:=h;exact⟨A,c,e,hc,hm,hl,h0,fun h=>absurd h (by omega)⟩
theorem zcm.setB {w wr:World}{g4 g11:Nat}{v:Value}{b b2:Bool}{l:List ByteArray}(h:zcm w wr g4 g11 v b l):zcm w (wr.setCell ⟨g11,1,none⟩ (.bool b2)) g4 g11 v b2 l:=
 ⟨h.low.setCell (p:=⟨g11,1,none⟩) (by show w.heap.size≤g11;have:=h.le4;have:=h.le;omega) _,h.le4,h.le,Blk.far h.box4 (by show g11≠g4;have:=h.le;omega) _,Blk.set_ h.box 1 _,z4x h.own (p:=⟨g11,1,none⟩) h.ne _,h.ne4,h.ne⟩
theorem sbR29 (ops:Array Oper)(hops:Tryz.f113.body.bind (z0x 29)=some ops)(Q:Exit→Act→World→Prop)(w V:World)(g4 g7 g14 n m c7 c:Nat)(A7 C:Option Addr)(l l2:List ByteArray)
  (hI:zcm w V g4 g7 (.slice A7 n c7) false l) (hBB:Blk V g14 228 [.slice C m c,.bool true]) (hS:Strs V (.slice C m c) l2) (hl:l.length=n) (hm:l2.length=m) (hle:n+m≤12) (hne:g14≠g7) (hno:(Value.slice A7 n c7).ownBlock≠some g14) (hCne:0<m→∀ ad,C=some ad→ad.block≠g7)
  (u0 u1 u2 u3 u4 u5 u6 u8 u9 gA gC gD gE gG gH gI gJ gK gL gM gN gO gP gQ gR gT gV gW gX gY gZ i6 i7 i8 ia ib ic ie ig ii ij ik il im io ip iq ir iu iv iw ix iy iz iA iB iC iD iE iF iG iH iI iJ iK iL iM iN iO iP iQ iR iS iT iU iV iW iX iY iZ j0 j1 j2 j5 j6 j7 j8 j9 jb jd jf jg jh ji jj jk jl jm bE bF bG bH bI bJ bK bL bM bN bO bP bQ bT bU bV bW bX bY bZ cj:Value)
  (hQ:∀(ai aj ak am ao aq ar au aw:Value) (A':Option Addr) (c':Nat) (w':World),Hid (zcm w w' g4 g7 (.slice A' (n+m) c') true (l++l2))→Q .normal ⟨#[u0,u1,u2,u3,u4,u5,u6,.pointer (some ⟨g7,0,none⟩),u8,u9,gA,gC,gD,gE,.pointer (some ⟨g14,0,none⟩),gG,gH,gI,gJ,gK,gL,gM,gN,gO,gP,gQ,gR,gT,gV,gW,gX,gY,gZ,i6,i7,i8,ia,ib,ic,ie,ig,ii,ij,ik,il,im,io,ip,iq,ir,iu,iv,iw,ix,iy,iz,iA,iB,iC,iD,iE,iF,iG,iH,iI,iJ,iK,iL,iM,iN,iO,iP,iQ,iR,iS,iT,iU,iV,iW,iX,iY,iZ,j0,j1,j2,j5,j6,j7,j8,j9,jb,jd,jf,jg,jh,ji,jj,jk,jl,jm,bE,bF,bG,bH,bI,bJ,ai,aj,ak,am,ao,aq,ar,au,aw,bV,bW,bX,bY,bZ,cj],[]⟩ w'):
  (Code.region 29 ops true).wp prog Q ⟨#[u0,u1,u2,u3,u4,u5,u6,.pointer (some ⟨g7,0,none⟩),u8,u9,gA,gC,gD,gE,.pointer (some ⟨g14,0,none⟩),gG,gH,gI,gJ,gK,gL,gM,gN,gO,gP,gQ,gR,gT,gV,gW,gX,gY,gZ,i6,i7,i8,ia,ib,ic,ie,ig,ii,ij,ik,il,im,io,ip,iq,ir,iu,iv,iw,ix,iy,iz,iA,iB,iC,iD,iE,iF,iG,iH,iI,iJ,iK,iL,iM,iN,iO,iP,iQ,iR,iS,iT,iU,iV,iW,iX,iY,iZ,j0,j1,j2,j5,j6,j7,j8,j9,jb,jd,jf,jg,jh,ji,jj,jk,jl,jm,bE,bF,bG,bH,bI,bJ,bK,bL,bM,bN,bO,bP,bQ,bT,bU,bV,bW,bX,bY,bZ,cj],[]⟩ V:=by
 simp only[Tryz.f113,Option.bind_some,z0x] at hops
 simp at hops
 subst hops;have HQ:=hd_ hQ;have HI:=hd_ hI;obtain⟨x0,x1,f0,f1⟩:=(⟨hI.box.c0,hI.box.c1,hI.box.frozen 0,hI.box.frozen 1⟩:V.cell? ⟨g7,0,none⟩=some (.slice A7 n c7)∧V.cell? ⟨g7,1,none⟩=some (.bool false)∧V.frozen? ⟨g7,0,none⟩=false∧V.frozen? ⟨g7,1,none⟩=false);obtain⟨b0,b1⟩:=(⟨hBB.cell 0,hBB.cell 1⟩:V.cell? ⟨g14,0,none⟩=some (.slice C m c)∧V.cell? ⟨g14,1,none⟩=some (.bool true));have n1:¬(g14=g7):=hne;have n2:¬(g7=g14):=fun e=>hne e.symm;subst hl hm;have hOW:=hI.own;have hWW:w.heap.size≤V.heap.size:=hI.low.size;have HOWN:=hd_ hOW;have HS:=hd_ hS;have HONE:Hid (∀ v∈l2.map Value.string,v.oneCell'=true):=hd_ (fun v hv=>by obtain⟨x,-,rfl⟩:=List.mem_map.1 hv;rfl)
 have HBB:=hd_ hBB;have HI2:=hd_ (hI.setB (b2:=true));have HS2:Hid (Strs (V.setCell ⟨g7,1,none⟩ (.bool true)) (.slice C l2.length c) l2):=hd_ (by
  rcases Nat.eq_zero_or_pos l2.length with h0 | h0
  ·exact Row.empty hS h0
  ·refine Row.set_far hS ?_;intro e;cases C with
   | none=>cases e
   | some ad=>exact hCne h0 ad rfl (by simpa [Value.ownBlock] using e))
 have HNO:=hd_ hno;clear hQ hI hOW hS hBB hCne hno;refine wp_region_noPanic ?_;go_region_law (first
   | (refine z0t (base:=w.heap.size) rfl rfl zl2 HOWN.out (by simp [Act.eval,Act.put];done) HS.out (by simp [Act.eval,Act.put];done) HONE.out (by omega) (by unfold maxLen;omega) hWW ?_;intro A5 c5 w5 hO5 hG5 hw5;have hb5:=Blk.grown (Blk.drew' HI.out.box) hG5 (fun e=>HI.out.ne e.symm);have k5:=Blk.frozen hb5 0;have k6:=Blk.frozen hb5 1;have k7:=Blk.cell hb5 0;have k8:=Blk.cell hb5 1;have k9:=(Blk.grown (Blk.drew' HBB.out) hG5 (fun e=>HNO.out e.symm)).cell 1)
   | (refine z0t (base:=w.heap.size) rfl rfl zl2 HI2.out.own (by simp [Act.eval,Act.put];done) HS2.out (by simp [Act.eval,Act.put];done) HONE.out (by omega) (by unfold maxLen;omega) hWW ?_;intro A5 c5 w5 hO5 hG5 hw5;have hb5:=Blk.grown (Blk.drew' HI2.out.box) hG5 (fun e=>HI2.out.ne e.symm);have k5:=Blk.frozen hb5 0;have k6:=Blk.frozen hb5 1;have k7:=Blk.cell hb5 0;have k8:=Blk.cell hb5 1))
 all_goals first
  | exact NoPanic.normal (HQ.out _ _ _ _ _ _ _ _ _ _ _ _ (hd_ ((HI.out.app (m:=l2) rfl hO5 ⟨hG5.os,hG5.tape,hG5.output,hG5.size,hG5.block⟩ hw5).setB (b2:=true))))
  | exact NoPanic.normal (HQ.out _ _ _ _ _ _ _ _ _ _ _ _ (hd_ (HI2.out.app (m:=l2) rfl hO5 ⟨hG5.os,hG5.tape,hG5.output,hG5.size,hG5.block⟩ hw5)))
def SbV:Value→Bool
 | .string _=>true
 | .bool _=>true
 | _=>false
def zo7 (w:World)(g:Nat):Prop:=∀(off:Nat) u,w.cell? ⟨g,off,none⟩=some u→SbV u=false
theorem zo8 {w:World}{ad:Addr}{u:Value}(h:w.cell? ad=some u):w.cell? ⟨ad.block,ad.off,none⟩=some u:=by
 obtain⟨b,o,s⟩:=ad;cases s with
 | none=>exact h
 | some k =>
  unfold World.cell? at h
  split at h
  ·simp at h
  ·cases h
theorem Row.keptN {S:List Nat}{w w':World}{size n:Nat}{v:Value}{xs:List Value}(h:Row w size v n xs)(hK:z9s S w w')(hS:∀ g∈S,zo7 w g)(hx:0<n→∃(j:Nat) (u:Value),xs[j]? = some u∧SbV u=true):Row w' size v n xs:=by
 obtain⟨A,c,rfl,hc,hm,hl,h0,hr⟩:=id h;rcases Nat.eq_zero_or_pos n with hn | hn
 ·exact⟨A,c,rfl,hc,hm,hl,h0,fun hp=>by omega⟩
 ·obtain⟨ad,rfl,hb,hcell⟩:=hr hn;refine Row.kept h hK fun hmem=>?_;obtain⟨j,u,hj,hu⟩:=hx hn;have h1:=zo8 (hcell j u hj);rw[z00] at h1;rw[hS _ hmem _ _ h1] at hu;cases hu
theorem Strs.keptN {S:List Nat}{w w':World}{v:Value}{l:List ByteArray}(h:Strs w v l)(hK:z9s S w w')(hS:∀ g∈S,zo7 w g):Strs w' v l:=
 Row.keptN h hK hS fun hn=>⟨0,.string (l[0]'hn),by rw[List.getElem?_map,List.getElem?_eq_getElem hn];rfl,rfl⟩
theorem z9j.keptN {S:List Nat}{w w':World}{v:Value}{p:Pat}(h:z9j w v p)(hK:z9s S w w')(hS:∀ g∈S,zo7 w g):z9j w' v p:=⟨h.1.keptN hK hS,h.2⟩
theorem zcp.keptN {S:List Nat}{w w':World}{v:Value}{hs:List zco}(h:zcp w v hs)(hK:z9s S w w')(hS:∀ g∈S,zo7 w g):zcp w' v hs:=
 ⟨Row.keptN h.1 hK hS fun hn=>⟨1,.bool (hs[0]'hn).1.rest,by
  cases hs with
  | nil=>simp at hn
  | cons q hs=>rfl,rfl⟩,fun q hq=>(h.2 q hq).keptN hK hS⟩
theorem zd1.keptN {S:List Nat}{w w':World}{v:Value}{es:List zcv}(h:zd1 w v es)(hK:z9s S w w')(hS:∀ g∈S,zo7 w g):zd1 w' v es:=
 ⟨Row.keptN h.1 hK hS fun hn=>⟨1,.bool (es[0]'hn).l.1.rest,by
  cases es with
  | nil=>simp at hn
  | cons q hs=>rfl,rfl⟩,fun x hx=>⟨(h.2 x hx).l.keptN hK hS,(h.2 x hx).r.keptN hK hS,(h.2 x hx).h.keptN hK hS,(h.2 x hx).n⟩⟩
theorem z4c.keptN {S:List Nat}{w w':World}{v:Value}{D:List Rev}(h:z4c w v D)(hK:z9s S w w')(hS:∀ g∈S,zo7 w g):z4c w' v D:=
 Row.keptN h hK hS fun hn=>⟨0,.string (D[0]'hn).path,by
  cases D with
  | nil=>simp at hn
  | cons q hs=>rfl,rfl⟩
theorem z4h.keptN {S:List Nat}{w w':World}{v:Value}{l:List Hav}(h:z4h w v l)(hK:z9s S w w')(hS:∀ g∈S,zo7 w g):z4h w' v l:=
 Row.keptN h hK hS fun hn=>⟨0,.string (l[0]'hn).path,by
  cases l with
  | nil=>simp at hn
  | cons q hs=>rfl,rfl⟩
theorem zo7.blk {w:World}{g:Nat}{e:TypeId}{cs:List Value}(h:Blk w g e cs)(hc:∀ u∈cs,SbV u=false):zo7 w g:=fun off u hu=>by
 rw[h.cell off] at hu;exact hc u (List.mem_of_getElem? hu)
theorem zg0.nosb {w:World}{U g m:Nat}(h:zg0 w U g m):∀ x∈[g],zo7 w x:=by
 obtain⟨l,A,c,a,h1,-⟩:=h;intro x hx;rw[List.mem_singleton] at hx;subst hx;exact zo7.blk h1 (by simp [SbV])
def zod (b:UInt8):Value:=.int .u8 b.toNat
def zoe (w:World)(base:Nat)(v:Value)(n:Nat):Prop:=∃ g cap cur fz,v=.slice (some ⟨g,0,none⟩) n cap∧base≤g∧w.heap[g]? = some (.cells cur 5 fz)∧(∀ o,o<cur.size→¬(fz.1≤o∧o<fz.2))∧n≤cap∧cap≤maxLen∧cur.size=cap∧∃ bs:List UInt8,bs.length=n∧cur.toList.take n=bs.map zod
theorem zof:z0e prog 219 5 1 1:=z0f underlying219 (z:=.int .u8 0) (by kernel_rfl) rfl (by decide)
section
variable {w w' : World} {base n : Nat} {v : Value}
theorem zoe.row (h:zoe w base v n):∃ l:List UInt8,l.length=n∧Bytes w v l:=by
 obtain⟨g,cap,cur,fz,rfl,hb,hg,hf,hn,hc,hs,bs,rfl,ht⟩:=h;refine⟨bs,rfl,_,cap,rfl,hn,hc,by simp,fun h=>(by cases h),fun _=>⟨_,rfl,(Array.getElem?_eq_some_iff.1 hg).1,fun j u hu=>?_⟩⟩
 rw[Addr.add_lit,cell_of_row w g _ cur _ fz hg];have hu2:(bs.map zod)[j]? = some u:=hu;rw[← ht,List.getElem?_take] at hu2;split at hu2
 ·simpa using hu2
 ·cases hu2
theorem zoe.keepAt (h:zoe w base v n)(hk:∀ x,base≤x→x<w.heap.size→v.ownBlock=some x→w'.heap[x]? = w.heap[x]?):zoe w' base v n:=by
 obtain⟨g,cap,cur,fz,rfl,hb,hg,h⟩:=h;exact⟨g,cap,cur,fz,rfl,hb,(hk g hb (Array.getElem?_eq_some_iff.1 hg).1 rfl).trans hg,h⟩
theorem zoe.lt (h:zoe w base v n):∀ x,v.ownBlock=some x→base≤x∧x<w.heap.size:=by
 obtain⟨g,cap,cur,fz,rfl,hb,hg,-⟩:=h;intro x hx;injection hx with hx
 subst hx;exact⟨hb,(Array.getElem?_eq_some_iff.1 hg).1⟩
theorem zog (P:Program)(g o:Nat)(t:TypeId)(fz:Nat×Nat)(u:Value)(cur:Array Value)(w:World)(hg:w.heap[g]? = some (.cells cur t fz))(hfz:¬(fz.1≤o∧o<fz.2))(ho:o<cur.size)(h1:u.oneCell'=true):
  (storeCells ⟨g,o,none⟩ [u] 0).run P w=.ok () (w.setRow g (cur.setIfInBounds o u)):=by
 have hadd:(⟨g,o,none⟩:Addr).add 0=⟨g,o,none⟩:=by unfold Addr.add;simp
 have hcell:w.cell? ⟨g,o,none⟩=some cur[o]:=by simp [World.cell?,hg,ho]
 have hfro:w.frozen? ⟨g,o,none⟩=false:=by
  obtain⟨lo,hi'⟩:=fz;simp only[World.frozen?,hg,Bool.and_eq_false_iff,decide_eq_false_iff_not]
  simp only at hfz
  omega
 have hst:(store ((⟨g,o,none⟩:Addr).add 0) u).run P w=.ok () (w.setRow g (cur.setIfInBounds o u)):=by
  rw[hadd,run_store P w _ u _ h1,hcell];simp [hfro,setCell_eq_setRow w g o cur t fz u hg]
 simp only[storeCells,Sem.run_bind,hst,Result.andThen_ok]
 rfl
theorem zoh (ty:TypeId)(hown:zoe w base v n){ad:Addr}{c:Nat}(x:UInt8)(hx:w.cell? ad=some (zod x))(hn:n≤1000000)(hbase:base≤w.heap.size):
  ∃ A' c' w',(Builtin.append_ #[219,219] ty #[v,.slice (some ad) 1 c]).run prog w=.ok (.slice A' (n+1) c') w'∧zoe w' base (.slice A' (n+1) c') (n+1)∧w.grownBy w' v.ownBlock:=by
 obtain⟨g,cap,cur,fz,rfl,hb,hg,hf,hnc,hc,hs,bs,hbl,ht⟩:=hown;obtain⟨i,z,hti,hi,hz,hsize,hby,hzs,hsz⟩:=zof;have hnews:∀(j:Nat) u,[zod x][j]? = some u→w.cell? (ad.add j)=some u:=by
  intro j u hj;cases j with
  | zero =>
   have e:zod x=u:=by simpa using hj
   have e2:ad.add 0=ad:=by unfold Addr.add;simp
   rw[← e,e2];exact hx
  | succ j=>simp at hj
 have hf1:=run_firstCells_some (P:=prog) w i.size 1 ad 1 c [zod x] (by rw[hsize];rfl) hnews
 rw[hsize] at hf1;have hone:(zod x).oneCell'=true:=rfl;by_cases hroom:n+1≤cap
 ·have hst:=zog prog g n 5 fz (zod x) cur w hg (hf n (by omega)) (by omega) hone
  have hr:(Builtin.append_ #[219,219] ty #[.slice (some ⟨g,0,none⟩) n cap,.slice (some ad) 1 c]).run prog w=.ok (.slice (some ⟨g,0,none⟩) (n+1) cap) (w.setRow g (cur.setIfInBounds n (zod x))):=by
   simp [Builtin.append_,run_underlying hti,sizeOf,typeInfo,hi,Builtin.lenOf,hroom,hf1,Addr.add_lit,hsize,hst]
  refine⟨_,_,_,hr,⟨g,cap,_,fz,rfl,hb,setRow_heap w g cur _ _ _ hg,by simpa using hf,hroom,hc,by simpa using hs,bs++[x],by simp [hbl],?_⟩,⟨rfl,rfl,rfl,by simp,fun k _ hk=>setRow_other w g k _ (fun e=>hk (by simp [Value.ownBlock,e]))⟩⟩
  have hl:n<cur.toList.length:=by simpa using (show n<cur.size by omega)
  rw[Array.toList_setIfInBounds,List.set_eq_take_append_cons_drop,if_pos hl,List.map_append,← ht,List.take_append,List.length_take,Nat.min_eq_left (Nat.le_of_lt hl),List.take_of_length_le (by rw[List.length_take];omega),show n+1 - n=1 by omega]
  rfl
 ·have holds:∀ j u,(bs.map zod)[j]? = some u→w.cell? ((⟨g,0,none⟩:Addr).add j)=some u:=by
   intro j u hj;rw[Addr.add_lit,cell_of_row w g _ cur _ fz hg];rw[← ht,List.getElem?_take] at hj;split at hj
   ·simpa using hj
   ·cases hj
  have hr:=run_append_grow (P:=prog) w 219 ty 5 i z hti hi hz ⟨g,0,none⟩ n cap (bs.map zod) (by rw[hsize];simp [hbl]) holds ad 1 c [zod x] (by rw[hsize];rfl) hnews (by omega) (by omega) (growslice_fits (by omega) (by rw[hby];omega))
  have hge:=grownCap_ge w (n+1) cap 5;have hcm:=grownCap_le_maxLen w (n+1) cap 5 (by unfold maxLen;omega)
  refine⟨_,_,_,hr,⟨w.heap.size,_,_,(0,0),rfl,hbase,heap_alloc_new w.drew _,fun o _ h=>by omega,hge,hcm,?_,bs++[x],by simp [hbl],?_⟩,⟨rfl,rfl,rfl,by simp,fun k hk _=>heap_alloc_old w.drew _ hk⟩⟩
  ·simp only[Array.size_append,List.size_toArray,size_zeroCells,hzs,List.length_append,List.length_map,hbl,List.length_cons,List.length_nil]
   omega
  ·have e:n+1=(bs.map zod++[zod x]).length:=by simp [hbl]
   simp only[Array.toList_append]
   rw[List.map_append,show List.map zod [x]=[zod x] from rfl];conv=>lhs;arg 1;rw[e]
   exact List.take_left
end
theorem zoi (w:World)(s:ByteArray)(hs:s.size≤1000000):zoe (cvtW w s 5) w.heap.size (.slice (some (cvtA w)) s.size (z0c w s 5)) s.size:=by
 have h1:=grownCap_ge w s.size 0 5;have h2:=grownCap_le_maxLen w s.size 0 5 (by unfold maxLen;omega)
 have h3:s.data.toList.length=s.size:=rfl;have hz:(bytesRow s (z0c w s 5)).size=z0c w s 5:=by
  unfold bytesRow z0c;simp only[Array.size_append,Array.size_map,Array.size_replicate]
  have:s.data.size=s.size:=rfl;omega
 refine⟨w.heap.size,_,_,_,rfl,Nat.le_refl _,heap_alloc_new w.drew _,fun o ho h=>?_,h1,h2,hz,s.data.toList,rfl,?_⟩
 ·have:=h.1;omega
 ·unfold bytesRow;rw[Array.toList_append,List.take_append_of_le_length (by simp),Array.toList_map,List.take_of_length_le (by simp)]
  rfl
theorem zoj {w:World}{base n:Nat}{v:Value}{ops:Array Oper}{rest:List Oper}{o:Oper}{a:Act}{Q:Exit→Act→World→Prop}(hgd:o.guard=none){s y:Operand}
  (ho:o.op=.call { callee:=.builtin .append,args:=#[s,y],argTypes:=#[219,219] }) (hown:zoe w base v n) (hs:a.eval s=v)
  {ad:Addr} {c:Nat} (hy:a.eval y=.slice (some ad) 1 c) {k:Int} (hk:0≤k∧k<256) (hx:w.cell? ad=some (.int .u8 k)) (hn:n≤1000000) (hbase:base≤w.heap.size)
  (h:∀ A' c' w',zoe w' base (.slice A' (n+1) c') (n+1)→w.grownBy w' v.ownBlock→wpList prog ops Q rest (a.put o.dst (.slice A' (n+1) c')) w'):wpList prog ops Q (o :: rest) a w:=by
 have e:Value.int .u8 k=zod (UInt8.ofNat k.toNat):=by
  unfold zod;congr 1
  have:k.toNat<256:=by omega
  simp [UInt8.toNat_ofNat',Nat.mod_eq_of_lt this]
  omega
 rw[e] at hx;obtain⟨A',c',w',hrun,h2,h3⟩:=zoh o.type hown (UInt8.ofNat k.toNat) hx hn hbase;refine wpList_plain hgd fun K hK=>?_;unfold Oper.wp execOp;simp only[ho,resolve,invoke,builtin,Sem.run_bind,Sem.run_pure,Result.andThen_ok,List.map_toArray,List.map_cons,List.map_nil,hs,hy]
 rw[hrun];exact hK _ _ (h A' c' w' h2 h3)
def zok:List ByteArray:=[⟨#[97]⟩,⟨#[98,98]⟩,⟨#[36,73,100,36]⟩,⟨#[36,73,100,58,32,120,36,99]⟩,⟨#[97,98]⟩,⟨#[97,98,99]⟩,⟨#[120,47,121]⟩,⟨#[36,80,97,116,104,36,32,36,73,100,36]⟩]
theorem zol:∀ s∈zok,s.size≤20:=by decide
structure zom (w wr:World)(U g m:Nat)(v:Value)(n:Nat):Prop where
 kept:z9s [g] w wr
 tape:zg0 wr U g m
 own:zoe wr w.heap.size v n
 gU:g<w.heap.size
 UU:U≤w.heap.size
section
variable {w wr w' : World} {U g m m' n : Nat} {v : Value}
theorem zom.next (h:zom w wr U g m v n)(hK:z9s [g] wr w')(hT:zg0 w' U g m'):zom w w' U g m' v n:=
 ⟨h.kept.trans hK,hT,h.own.keepAt fun x h1 h2 _=>hK.block x h2 (by have:=h.gU;rw[List.mem_singleton];omega),h.gU,h.UU⟩
theorem zom.under (h:zom w wr U g m v n)(hb:zB wr w'):zom w w' U g m v n:=h.next (z9s.below hb) (h.tape.below hb)
theorem zom.push {v':Value}{n':Nat}(h:zom w wr U g m v n)(ho:zoe w' w.heap.size v' n')(hg:wr.grownBy w' v.ownBlock):zom w w' U g m v' n':=by
 have hlt:=h.own.lt;have hUU:=h.UU;exact⟨h.kept.grown_own hg (fun x e=>(hlt x e).1),h.tape.keep hg.size (fun x hx=>hg.block x (by have:=h.kept.size;omega) (fun e=>by have:=(hlt x e.symm).1;omega)),ho,h.gU,h.UU⟩
end
def WbPost (w:World)(U g m:Nat)(e:Ending)(w':World):Prop:=∃(v:Value) (n:Nat),e=.returned v∧n≤100∧zoe w' w.heap.size v n∧zg0 w' U g m∧z9s [g] w w'
theorem zon (U g m:Nat)(w:World)(hT:zg0 w U g m)(hU:U≤w.heap.size)(hm:m≤100000):
  Calls prog 161 #[.pointer (some ⟨g,0,none⟩)] w (WbPost w U g (m+5)):=by
 have hgl:g<w.heap.size:=by have:=hT.ltU;omega
 have hA:zB w (w.alloc (.cells (zok.map Value.string).toArray 9)):=(Below.refl _ _).alloc (Nat.le_refl _) _;have HB:Hid (Blk _ _ 9 (zok.map Value.string)):=hd_ (z0l w _ _);have HN:=hd_ (zg1 U g m 8 _ (hT.below hA) (by omega) (by omega))
 have HA:=hd_ (z9s.below (S:=[g]) hA);have HG:Hid (g<w.heap.size∧U≤w.heap.size):=hd_ ⟨hgl,hU⟩;have hcv:=fun W s=>run_cvt (P:=prog) W 9 219 5 s underlying9 underlying219 underlying5;have HCV:=hd_ hcv;clear hT hU hA hgl hcv;go_enter func161,ntmps161;go_upto_region 2 with fail;change _ at HN;have e0:w.alloc (.cells (zok.map Value.string).toArray 9)=w.alloc (.cells #[.string ⟨#[97]⟩,.string ⟨#[98,98]⟩,.string ⟨#[36,73,100,36]⟩,.string ⟨#[36,73,100,58,32,120,36,99]⟩,.string ⟨#[97,98]⟩,.string ⟨#[97,98,99]⟩,.string ⟨#[120,47,121]⟩,.string ⟨#[36,80,97,116,104,36,32,36,73,100,36]⟩] 9):=rfl;rw[← e0];clear e0;generalize w.alloc (.cells (zok.map Value.string).toArray 9)=W1 at HB HN HA ⊢;go_wp2_with fail;refine HN.out.mono ?_;rintro e w2 ⟨k,rfl,hk,hT2,hK2⟩;dsimp only;obtain⟨j,rfl⟩:∃ j:Nat,k=j:=⟨k.toNat,by have:=hk.1;omega⟩
 have hj:j<8:=by have:=hk.2.1 (by omega);omega
 have s0:w2.cell? ⟨w.heap.size,j,none⟩=some (.string (zok[j]'hj)):=((hK2.blk HB.out (by simp;have:=HG.out;omega)).cell j).trans (by rw[List.getElem?_map,List.getElem?_eq_getElem (show j<zok.length from hj)];rfl)
 have hz:(zok[j]'hj).size≤20:=zol _ (List.getElem_mem _);generalize zok[j]'hj=s at s0 hz;have HS:Hid (zom w (cvtW w2 s 5) U g (m+1) (.slice (some (cvtA w2)) s.size (z0c w2 s 5)) s.size):=hd_ (by
  have hb:=z0d w2 s 5;have hsz:=hK2.size;have hsz2:=HA.out.size;have ho:=zoi w2 s (by omega)
  refine⟨(HA.out.trans hK2).under hb,hT2.below hb,?_,HG.out.1,HG.out.2⟩;obtain⟨g',cap,cur,fz,e1,e2,e3⟩:=ho;exact⟨g',cap,cur,fz,e1,by omega,e3⟩)
 have hcv:=HCV.out;have hz8:(j:Int)<8:=by omega
 clear hk hT2 hK2 hj HB HN HA HCV;go_upto_region 3 with fail;generalize cvtW w2 s 5=W3 at HS ⊢;generalize cvtA w2=A0 at HS ⊢;generalize z0c w2 s 5=c0 at HS ⊢;clear s0 hcv hz8;have HX:=hd_ (zg1 U g (m+1) 4 W3 HS.out.tape (by omega) (by omega))
 go_wp2_with fail;refine HX.out.mono ?_;rintro e w4 ⟨k,rfl,hk,hT4,hK4⟩;dsimp only;obtain⟨j4,rfl⟩:∃ j:Nat,k=j:=⟨k.toNat,by have:=hk.1;omega⟩
 have hj4:j4≤3:=by have:=hk.2.1 (by omega);omega
 have HS4:=hd_ (HS.out.next hK4 hT4);clear hk hT4 hK4 HX HS;go_wp2_with fail;go_loopw [4,5] (fun v i wr=>∃(j n:Nat) (A:Option Addr) (c:Nat),v=.slice A n c∧i=.int .i64 j∧n+j≤23∧j≤3∧Hid (∃ m',m'+j≤m+5∧zom w wr U g m' v n)) (fun _ i _=>(intOf i).toNat)
 case atStart=>exact⟨j4,s.size,some A0,c0,rfl,rfl,by omega,hj4,hd_ ⟨m+1+1,by omega,HS4.out⟩⟩
 case round =>
  obtain⟨j,n,A,c,rfl,rfl,hnj,hj3,HI⟩:=hrel;clear HS4;by_cases h1:0<j
  ·obtain⟨m',hm',hS⟩:=HI.out;have HS:=hd_ hS;have HM:=hd_ hm';have q1:decide ((0:Int)<(j:Int))=true:=by simp;omega
   have HX:=hd_ (zg1 U g m' 3 wr hS.tape (by omega) (by omega))
   have HH:=hd_ (And.intro h1 (And.intro hnj hj3));clear hS hm' HI hnj hj3;go_wp2_with fail;refine HX.out.mono ?_;rintro e w5 ⟨k,rfl,hk,hT5,hK5⟩;dsimp only;have hk3:0≤k∧k<3:=⟨hk.1,hk.2.1 (by omega)⟩
   have q3:IntKind.i64.wrap (97+k)=97+k:=by rw[IntKind.wrap_i64];omega
   have q4:IntKind.u8.wrap (97+k)=97+k:=by simp [IntKind.wrap,IntKind.bits,IntKind.signed];omega
   have HS5:=hd_ ((HS.out.next hK5 hT5).under ((Below.refl w5.heap.size w5).alloc (Nat.le_refl _) (.cells #[.int .u8 (97+k)] 5)));have HY:Hid ((w5.alloc (.cells #[.int .u8 (97+k)] 5)).cell? ⟨w5.heap.size,0,none⟩=some (.int .u8 (97+k))):=hd_ ((z0l w5 [.int .u8 (97+k)] 5).cell 0);clear hk hT5 hK5 HX HS;go_wp2_with (at_builtin;refine zoj rfl rfl HS5.out.own rfl rfl (k:=97+k) (by omega) HY.out (by have:=HH.out;omega) (by have:=HS5.out.kept.size;exact this) ?_;intro A' c' w6 ho hg)
   have HN:=hd_ (HS5.out.push ho hg);have q5:IntKind.i64.wrap ((j:Int) - 1)=((j - 1:Nat):Int):=by rw[IntKind.wrap_i64];have:=HH.out;omega
   have hj3:=HH.out.2.2;clear ho hg q3 q4;go_wp2_with fail;go_roundw
   case rel=>exact⟨j - 1,n+1,A',c',rfl,by first | rfl | go_num | (have:=HH.out;refine congrArg _ ?_;unfold wrap64;omega),by have:=HH.out;omega,by have:=HH.out;omega,hd_ ⟨m'+1,by have:=HM.out;have:=HH.out;omega,HN.out⟩⟩
   case measure=>have:=HH.out;simp [intOf,wrap64];omega
  ·have hj0:j=0:=by omega
   subst hj0;obtain⟨m',hm',hS⟩:=HI.out;have HF:Hid (WbPost w U g (m+5) (.returned (.slice A n c)) wr):=hd_ ⟨_,n,rfl,by omega,hS.own,hS.tape.mono (by omega),hS.kept⟩
   clear hS hm' HI;go_wp2_with fail;go_ret;exact HF.out
structure Cnk where
 s:Int
 z:Int
 A:Option Addr
 n:Nat
 c:Nat
def Cnk.cells (x:Cnk):List Value:=[.int .u64 x.s,.int .i64 x.z,.slice x.A x.n x.c]
theorem cnkElem:z0e prog 59 225 3 40:=z0f underlying59 (z:=.agg #[.int .u64 0,.int .i64 0,.slice none 0 0]) (by kernel_rfl) rfl (by decide)
theorem eql_cid (a b c d:Int)(W:World):(binOp .eql 88 (.agg #[.int .u64 a,.int .i64 b]) (.agg #[.int .u64 c,.int .i64 d])).run prog W=.ok (.bool (decide (a=c) && decide (b=d))) W:=by
 rw[run_eql_struct,run_equalIn_agg W 9999 88 _ _ (by kernel_rfl) (by kernel_rfl)]
 simp [go_sem,Op.eqFields]
 by_cases h1:a=c <;> by_cases h2:b=d <;> simp [h1,h2]
structure WsB (w wr:World)(U g gw m:Nat)(D:List Rev)(dv dr cv:Value)(l:List Cnk):Prop where
 kept:z9s [g] w wr
 tape:zg0 wr U g m
 box:Blk wr gw 61 [dv,dr,cv]
 cnk:wr.ownsRow (gw+1) 225 3 cv l.length (l.flatMap Cnk.cells)
 revs:z4c wr dv D
 gU:g<U
 UU:U≤w.heap.size
 le:w.heap.size≤gw
 far:∀ x,dv.ownBlock=some x→x≠gw∧x<wr.heap.size∧cv.ownBlock≠some x
theorem Row.heap {w w':World}{size n:Nat}{v:Value}{xs:List Value}(h:Row w size v n xs)(hs:w.heap.size≤w'.heap.size)(hk:∀ x,x<w.heap.size→v.ownBlock=some x→w'.heap[x]? = w.heap[x]?):Row w' size v n xs:=by
 obtain⟨A,c,rfl,hc,hm,hl,h0,hr⟩:=h;refine⟨A,c,rfl,hc,hm,hl,h0,fun hn=>?_⟩;obtain⟨ad,rfl,hb,hcell⟩:=hr hn;refine⟨ad,rfl,by omega,fun j u hu=>?_⟩
 rw[← hcell j u hu];refine World.cell?_of_block ?_;rw[z00];exact hk _ hb rfl
section
variable {w wr w' : World} {U g gw m m' : Nat} {D : List Rev} {dv dr cv : Value} {l : List Cnk}
theorem WsB.next (h:WsB w wr U g gw m D dv dr cv l)(hK:z9s [g] wr w')(hT:zg0 w' U g m'):WsB w w' U g gw m' D dv dr cv l:=by
 have h1:=h.gU;have h2:=h.UU;have h3:=h.le;refine⟨h.kept.trans hK,hT,hK.blk h.box (by simp;omega),zkv h.cnk hK (fun x hx=>by have:=(h.cnk.lt x hx).1;simp;omega),z4c.keptN h.revs hK h.tape.nosb,h1,h2,h3,fun x hx=>⟨(h.far x hx).1,Nat.lt_of_lt_of_le (h.far x hx).2.1 hK.size,(h.far x hx).2.2⟩⟩
theorem WsB.under (h:WsB w wr U g gw m D dv dr cv l)(hb:zB wr w'):WsB w w' U g gw m D dv dr cv l:=h.next (z9s.below hb) (h.tape.below hb)
theorem WsB.turn {w5:World}{cv':Value}{l':List Cnk}(h:WsB w wr U g gw m D dv dr cv l)(hg:wr.grownBy w5 cv.ownBlock)(ho:w5.ownsRow (gw+1) 225 3 cv' l'.length (l'.flatMap Cnk.cells))(hob:cv'.ownBlock=cv.ownBlock∨cv'.ownBlock=some wr.heap.size):
  WsB w (w5.setCell ⟨gw,2,none⟩ cv') U g gw m D dv dr cv' l':=by
 have h1:=h.gU;have h2:=h.UU;have h3:=h.le;have hbl:=h.box.lt;have hlt:=h.cnk.lt;have hne:some gw≠cv.ownBlock:=fun e=>by have:=(hlt gw e.symm).1;omega
 have hne':cv'.ownBlock≠some gw:=by
  rcases hob with e | e
  ·rw[e];exact fun e=>hne e.symm
  ·rw[e];intro e2;injection e2 with e2;omega
 have hk:z9s [g] w w5:=h.kept.grown_own hg (fun x e=>by have:=(hlt x e).1;omega)
 have hb5:Below w.heap.size w5 (w5.setCell ⟨gw,2,none⟩ cv'):=(Below.refl _ _).setCell (p:=⟨gw,2,none⟩) h3 _;have ht5:zg0 w5 U g m:=h.tape.keep hg.size (fun x hx=>hg.block x (by have:=h.kept.size;omega) (fun e=>by have:=(hlt x e.symm).1;omega))
 refine⟨hk.onto hb5,ht5.onto h2 hb5,(h.box.grown hg hne).set_ 2 cv',z4x ho (p:=⟨gw,2,none⟩) hne' _,?_,h1,h2,h3,fun x hx=>⟨(h.far x hx).1,Nat.lt_of_lt_of_le (h.far x hx).2.1 (Nat.le_trans hg.size hb5.size),?_⟩⟩
 ·have hr5:z4c w5 dv D:=Row.heap h.revs hg.size (fun x hx e=>hg.block x hx (fun e2=>(h.far x e).2.2 e2.symm));exact Row.set_far hr5 (fun e=>(h.far gw e).1 rfl)
 ·rcases hob with e | e
  ·rw[e];exact (h.far x hx).2.2
  ·rw[e];intro e2;injection e2 with e2;have:=(h.far x hx).2.1;omega
def FdPost (w:World)(e:Ending)(w':World):Prop:=(∃(A:Option Addr) (n c:Nat) (b:Bool),e=.returned (.tuple #[.slice A n c,.bool b]))∧zB w w'
theorem Cnk.at_ {w:World}{B:Nat}{A:Option Addr}{c:Nat}{l:List Cnk}(h:w.ownsRow B 225 3 (.slice A l.length c) l.length (l.flatMap Cnk.cells)){k:Nat}(hk:k<l.length):
  ∃ ad,A=some ad∧w.cell? (ad.add (k * 3))=some (.int .u64 l[k].s)∧w.cell? ⟨(ad.add (k * 3)).block,(ad.add (k * 3)).off+1,none⟩=some (.int .i64 l[k].z)∧w.cell? ⟨(ad.add (k * 3)).block,(ad.add (k * 3)).off+2,none⟩=some (.slice l[k].A l[k].n l[k].c):=by
 obtain⟨ad,e,hb,hc⟩:=z4f (f:=Cnk.cells) (n:=3) (fun _=>rfl) (Row.of_own h) hk;exact⟨ad,e,hc 0 _ rfl,hc 1 _ rfl,hc 2 _ rfl⟩
theorem zoo (h:WsB w wr U g gw m D dv dr cv l)(s z:Int)(hl:l.length≤1000000):
  Calls prog 163 #[.pointer (some ⟨gw,0,none⟩),.agg #[.int .u64 s,.int .i64 z]] wr (FdPost wr):=by
 obtain⟨A,c,rfl⟩:=z0o h.cnk;have hA:zB wr (wr.alloc (.cells #[.int .u64 s,.int .i64 z] 88)):=(Below.refl _ _).alloc (Nat.le_refl _) _;have HX:=hd_ (z0l wr [.int .u64 s,.int .i64 z] 88);have HB:=hd_ h.box;have HC:=hd_ h.cnk;have HA:=hd_ hA;clear h hA;go_enter func163,ntmps163;go_upto_region 1 with fail;generalize wr.alloc (.cells #[.int .u64 s,.int .i64 z] 88)=W1 at HX HA ⊢;generalize wr.heap.size=g3 at HX ⊢;go_wp2_with fail;go_loopw [6] (fun i wx=>∃ k:Nat,i=.int .i64 k∧k≤l.length∧Hid (zB W1 wx)) (fun i _=>l.length - (intOf i).toNat)
 case atStart=>exact⟨0,rfl,Nat.zero_le _,hd_ (Below.refl _ _)⟩
 case round =>
  obtain⟨k,rfl,hk,HI⟩:=hrel;have HBX:=hd_ (z0r HA.out HI.out);have hb2:=(HB.out.below HBX.out HB.out.lt).cell 2;have b2:wr.cell? ⟨gw,2,none⟩=some (.slice A l.length c):=hb2;clear hb2;by_cases hlt:k<l.length
  ·obtain⟨ad,rfl,c0,c1,c2⟩:=Cnk.at_ (z0n HC.out HBX.out) hlt;have hX:=HX.out.below HI.out HX.out.lt;have x0:wr.cell? ⟨g3,0,none⟩=some (.int .u64 s):=hX.cell 0;have x1:wr.cell? ⟨g3,1,none⟩=some (.int .i64 z):=hX.cell 1;generalize l[k]=y at c0 c1 c2;obtain⟨s',z',A',n',c'⟩:=y;dsimp only at c0 c1 c2
   have heq:=eql_cid s' z' s z;generalize (decide (s'=s) && decide (z'=z))=b at heq;have hzk:(k:Int)<(l.length:Int):=by omega
   have HLT:=hd_ hlt;clear hX hlt;go_upto_region 4 with fail;go_quiet (fail)
   clear heq;cases b with
   | true =>
    go_wp2_with fail;go_ret2;exact⟨⟨_,_,_,_,rfl⟩,z0p HBX.out _⟩
   | false =>
    go_wp2_with fail;go_roundw
    case rel=>exact⟨k+1,by go_num,by have:=HLT.out;omega,hd_ (z0p HI.out _)⟩
    case measure=>have:=HLT.out;simp [intOf];omega
  ·have hke:k=l.length:=by omega
   subst hke;have hge:¬((l.length:Int)<(l.length:Int)):=by omega
   go_wp2_with fail;go_ret2;exact⟨⟨none,0,0,false,rfl⟩,HBX.out⟩
end
section
variable {u0 u1 u2 u3 u4 u5 u6 u7 u8 u9 gA gC gD gE gF gG gH gI gJ gK gL gM gN gO gP gQ gR gT gV gW gX gY gZ i6 i7 i8 ia ib ic ie ig ii ij ik il im io ip iq ir iu iv iw ix iy iz iA iB iC iD iE iF iG iH iI iJ iK iL iM iN iO iP iQ iR iS iT iU iV iW iX iY iZ j0 j1 j2 j5 j6 j7 j8 j9 jb jd jf jg jh ji jj jk jl jm bE bF bG bH bI bJ bK bL bM bN bO bP bQ bT bU bV bW bX bY bZ cj ck cn cx cy cz cA cB cD cG cH cI cJ cM cN cO cP cQ cR cT cU cW cX cY cZ da dc dd de df dg dh di dj dm du dw dx dy dz dA : Value}
theorem stR15 (ops:Array Oper)(hops:Tryz.f50.body.bind (z0x 15)=some ops)(Q:Exit→Act→World→Prop)(V:World)(ad:Addr)(n c k g15 g17:Nat)(a wz hz:Hav)
  (hH:z4i V (ad.add (k * 3)) a) (hk:(k:Int)<(n:Int)) (h15:Blk V g15 96 [.string wz.path,.int .i64 wz.num,.string wz.loc]) (h17:Blk V g17 96 [.string hz.path,.int .i64 hz.num,.string hz.loc])
  (hQ:∀(fW fX fY fZ ga gb gf gg gh gi gj gm gn gt gu gx gy:Value) (g:Nat) (w':World),Blk w' g 50 [.int .i64 (z3u hz.loc wz.loc),.string a.path,.int .i64 wz.num,.string hz.loc,.string wz.loc]→V.heap.size≤g→zB V w'→Q .normal ⟨#[u0,u1,u2,u3,u4,u5,u6,u7,u8,u9,.slice (some ad) n c,gC,gD,gE,.int .i64 k,.pointer (some ⟨g15,0,none⟩),gH,.pointer (some ⟨g17,0,none⟩),gJ,.pointer (some ⟨g,0,none⟩),gL,gM,gN,gO,gP,gQ,gR,gT,gV,gW,gX,gY,gZ,i6,i7,i8,ia,ib,ic,ie,ig,ii,ij,ik,il,im,io,ip,iq,ir,iu,iv,iw,ix,iy,iz,iA,iB,iC,iD,iE,iF,iG,iH,iI,iJ,iK,iL,iM,iN,iO,iP,iQ,iR,iS,iT,iU,iV,iW,iX,iY,iZ,fW,fX,fY,fZ,ga,gb,gf,gg,gh,gi,gj,gm,gn,gt,gu,gx,gy,jm,bE,bF,bG,bH,bI,bJ,bK,bL,bM,bN,bO,bP,bQ,bT,bU,bV,bW,bX,bY,bZ,cj,ck,cn,cx,cy,cz,cA,cB,cD,cG,cH,cI,cJ,cM,cN,cO,cP,cQ,cR,cT,cU,cW,cX,cY,cZ,da,dc,dd,de,df,dg,dh,di,dj,dm,du,dw,dx,dy,dz,dA],[]⟩ w'):
  (Code.region 15 ops true).wp prog Q ⟨#[u0,u1,u2,u3,u4,u5,u6,u7,u8,u9,.slice (some ad) n c,gC,gD,gE,.int .i64 k,.pointer (some ⟨g15,0,none⟩),gH,.pointer (some ⟨g17,0,none⟩),gJ,gK,gL,gM,gN,gO,gP,gQ,gR,gT,gV,gW,gX,gY,gZ,i6,i7,i8,ia,ib,ic,ie,ig,ii,ij,ik,il,im,io,ip,iq,ir,iu,iv,iw,ix,iy,iz,iA,iB,iC,iD,iE,iF,iG,iH,iI,iJ,iK,iL,iM,iN,iO,iP,iQ,iR,iS,iT,iU,iV,iW,iX,iY,iZ,j0,j1,j2,j5,j6,j7,j8,j9,jb,jd,jf,jg,jh,ji,jj,jk,jl,jm,bE,bF,bG,bH,bI,bJ,bK,bL,bM,bN,bO,bP,bQ,bT,bU,bV,bW,bX,bY,bZ,cj,ck,cn,cx,cy,cz,cA,cB,cD,cG,cH,cI,cJ,cM,cN,cO,cP,cQ,cR,cT,cU,cW,cX,cY,cZ,da,dc,dd,de,df,dg,dh,di,dj,dm,du,dw,dx,dy,dz,dA],[]⟩ V:=by
 simp only[Tryz.f50,Option.bind_some,z0x] at hops
 simp at hops
 subst hops;have HQ:=hd_ hQ;have HK:=hd_ (fun X=>zpo hz.loc wz.loc X);obtain⟨x0,-,-⟩:=id hH;obtain⟨-,y1,y2⟩:=z3x (x:=wz) h15;obtain⟨-,-,z2⟩:=z3x (x:=hz) h17;have n0:=World.new_ne V _ x0;have n1:=World.new_ne V _ y1;have n2:=World.new_ne V _ z2;clear hQ hH h15 h17;go_region_held3 (fun w'=>w'.cell? (ad.add (k * 3))=some (.string a.path)∧w'.cell? ⟨g15,1,none⟩=some (.int .i64 wz.num)∧w'.cell? ⟨g15,2,none⟩=some (.string wz.loc)∧w'.cell? ⟨g17,2,none⟩=some (.string hz.loc))
  (go_keep)
  (first
   | (go_at_call 95;refine (HK.out _).mono ?_;rintro e w8 ⟨rfl,rfl⟩))
 all_goals exact HQ.out _ _ _ _ _ _ _ _ _ _ _ _ _ _ _ _ _ _ _ (Blk.drew' (z0l V [.int .i64 (z3u hz.loc wz.loc),.string a.path,.int .i64 wz.num,.string hz.loc,.string wz.loc] 50)) (Nat.le_refl _) (((Below.refl _ _).alloc (Nat.le_refl _) _).drew)
end
