/- A part of the proof. -/
import Derived.Test.YtegeboijhifmcaaGreatDoorMgs13
import Derived.Test.YtegeboijhifmcaaGreatDoorMsAlF
import Derived.Laws.EntriesVeiled
import Derived.Deep.LoopGhost
set_option linter.unusedVariables false
set_option linter.unusedSimpArgs false
set_option maxHeartbeats 4000000
set_option maxRecDepth 100000
namespace Go.Proofs.YtegeboijhifmcaaGreatDoor
open Go.Proofs.Tryz
open Go.RowKit
def natV (n:Nat):Value:=.int .i64 n
def ze8 (w:World)(B:Nat)(cnt:ByteArray→Nat):Prop:=∃ f,z2f Value.string natV w B f∧∀ p,(f p).getD 0=cnt p
theorem ze9 (w:World):(zeroValue 3).run prog w=.ok (natV 0) w:=by kernel_rfl
section
variable {w w' : World} {B : Nat} {cnt : ByteArray → Nat}
theorem ze8.new (w:World):ze8 (w.alloc (.map #[] 0)) w.heap.size (fun _=>0):=⟨_,z2f.new _ _ w,fun _=>rfl⟩
theorem ze8.alloc (h:ze8 w B cnt)(o:Obj):ze8 (w.alloc o) B cnt:=by obtain⟨f,h,r⟩:=h;exact⟨f,h.alloc o,r⟩
theorem ze8.lt (h:ze8 w B cnt):B<w.heap.size:=by obtain⟨f,h,r⟩:=h;exact h.lt
theorem ze8.look (h:ze8 w B cnt)(p:ByteArray):(Instr.lookup 122 (.map (some B)) (.string p) false).run prog w=.ok (.int .i64 (cnt p)) w:=by
 obtain⟨f,h,r⟩:=h;rw[z2f.lookup h z7q underlying122 (ze9 w) p false,← r p];unfold z2h;cases f p <;> rfl
end
inductive Bl (hs:List Hav) (pl:List Syn):ByteArray→Prop
 | free {x:Syn} {h:Hav}:x∈pl→z3o x.kind=false→x.dst≠z2l→h∈hs→h.loc=x.dst→h.path≠x.path→z6e pl h.path=none→Bl hs pl x.path
 | stay {x y:Syn} {h:Hav}:x∈pl→z3o x.kind=false→x.dst≠z2l→h∈hs→h.loc=x.dst→h.path≠x.path→z6e pl h.path=some y→z3o y.kind=true→Bl hs pl x.path
 | next {x:Syn} {h:Hav}:x∈pl→z3o x.kind=false→x.dst≠z2l→h∈hs→h.loc=x.dst→h.path≠x.path→Bl hs pl h.path→Bl hs pl x.path
noncomputable def blB (hs:List Hav)(pl:List Syn)(p:ByteArray):Bool:=@decide (Bl hs pl p) (Classical.propDecidable _)
theorem zee {hs:List Hav}{pl:List Syn}{p:ByteArray}:blB hs pl p=true↔Bl hs pl p:=by unfold blB;exact @decide_eq_true_iff _ (Classical.propDecidable _)
def zef (b:ByteArray→Bool)(x:Syn):Syn:=if b x.path then { x with kind:=5 } else x
def zeg (b:ByteArray→Bool)(pl:List Syn):List Syn:=pl.map (zef b)
theorem zeh (b:ByteArray→Bool)(x:Syn):(zef b x).path=x.path:=by unfold zef;split <;> rfl
theorem zei (b:ByteArray→Bool)(x:Syn):(zef b x).num=x.num∧(zef b x).frm=x.frm∧(zef b x).dst=x.dst:=by unfold zef;split <;> exact⟨rfl,rfl,rfl⟩
theorem zej (b:ByteArray→Bool)(x:Syn):z3o (zef b x).kind=(b x.path || z3o x.kind):=by
 unfold zef;cases b x.path
 ·rfl
 ·rfl
def zem (pl:List Syn)(b:ByteArray→Bool)(p:ByteArray):Prop:=z6e pl p=none∨∃ y,z6e pl p=some y∧(z3o y.kind=true∨b p=true)
theorem bl_eq {hs:List Hav}{pl:List Syn}{b:ByteArray→Bool}(hs1:∀ p,b p=true→Bl hs pl p)
  (hc:∀ x∈pl,z3o x.kind=false→b x.path=false→x.dst≠z2l→∀ h∈hs,h.loc=x.dst→h.path≠x.path→¬ zem pl b h.path):b=blB hs pl:=by
 have key:∀ p,Bl hs pl p→b p=true:=by
  intro p hp;induction hp with
  | free h1 h2 h3 h4 h5 h6 h7 =>
   cases e:b _ with
   | true=>rfl
   | false=>exact absurd (.inl h7) (hc _ h1 h2 e h3 _ h4 h5 h6)
  | stay h1 h2 h3 h4 h5 h6 h7 h8 =>
   cases e:b _ with
   | true=>rfl
   | false=>exact absurd (.inr ⟨_,h7,.inl h8⟩) (hc _ h1 h2 e h3 _ h4 h5 h6)
  | @next x h h1 h2 h3 h4 h5 h6 h7 ih =>
   cases e:b x.path with
   | true=>rfl
   | false =>
    have hst:zem pl b h.path:=by
     cases hg:z6e pl h.path with
     | none=>exact .inl hg
     | some y=>exact .inr ⟨y,hg,.inr ih⟩
    exact absurd hst (hc _ h1 h2 e h3 _ h4 h5 h6)
 funext p
 rw[Bool.eq_iff_iff,zee];exact⟨hs1 p,key p⟩
theorem zen {hs:List Hav}{pl:List Syn}{b:ByteArray→Bool}(hb:∀ p,b p=true→Bl hs pl p){x:Syn}{h:Hav}(h1:x∈pl)(h2:z3o x.kind=false)(h3:x.dst≠z2l)(h4:h∈hs)(h5:h.loc=x.dst)(h6:h.path≠x.path)(h7:zem pl b h.path):Bl hs pl x.path:=by
 rcases h7 with h7 | ⟨y,h7,h8 | h8⟩
 ·exact .free h1 h2 h3 h4 h5 h6 h7
 ·exact .stay h1 h2 h3 h4 h5 h6 h7 h8
 ·exact .next h1 h2 h3 h4 h5 h6 (hb _ h8)
structure zf0 (l:List Hav):Prop where
 srt:z6b l
 ok:∀ x∈l,x.okB=true
 loc:∀ x∈l,∀ y∈l,x.loc=y.loc→x.path=y.path
theorem zf1 {x:Hav}(h:x.okB=true):z3q x.path=true∧z3q x.loc=true∧1≤x.num:=by
 unfold Hav.okB at h;simp only[Bool.and_eq_true,decide_eq_true_eq] at h
 exact⟨h.1.1,h.1.2,h.2⟩
theorem zf2 {p:ByteArray}(h:z3q p=true):z2s p=true∧p.size≤200∧p≠z2l:=by
 unfold z3q at h;simp only[Bool.and_eq_true,decide_eq_true_eq] at h
 refine⟨h.2,h.1,?_⟩;rintro rfl;exact absurd h.2 (by decide)
theorem zf0.valid {l:List Hav}(h:zf0 l):∀ x∈l,z2s x.path=true:=fun x hx=>(zf2 (zf1 (h.ok x hx)).1).1
theorem zf0.locNe {l:List Hav}(h:zf0 l){x:Hav}(hx:x∈l):x.loc≠z2l:=(zf2 (zf1 (h.ok x hx)).2.1).2.2
theorem zf3:zf0 []:=⟨List.Pairwise.nil,(fun x hx=>by cases hx),(fun x hx=>by cases hx)⟩
theorem zf4:∀(l:List Hav) (p:Option Hav) (s:List ByteArray),(∀ q,p=some q→z2s q.path=true) →
  (z4f p s l=0↔zf0 l∧(∀ q,p=some q→∀ x∈l,z2u q.path x.path<0)∧∀ x∈l,x.loc∉s)
 | [],p,s,_=>⟨fun _=>⟨zf3,(fun q _ x hx=>by cases hx),(fun x hx=>by cases hx)⟩,fun _=>rfl⟩
 | h :: r,p,s,hv=>by
  rw[z4f];by_cases h1:(!h.okB || z4d p h)=true
  ·rw[if_pos h1];refine⟨fun e=>absurd e (by decide),fun ⟨g1,g2,g3⟩=>?_⟩
   have o1:=g1.ok h (List.mem_cons_self ..);rw[o1] at h1;cases p with
   | none=>exact absurd h1 (by show ¬(false || false)=true;decide)
   | some q =>
    have:=g2 q rfl h (List.mem_cons_self ..);rw[z4e] at h1;simp at h1
    omega
  ·rw[if_neg h1];have o1:h.okB=true:=by cases e:h.okB;rw[e] at h1;exact absurd rfl h1;rfl
   have o2:z4d p h=false:=by cases e:z4d p h;rfl;rw[e,Bool.or_true] at h1;exact absurd rfl h1
   have vh:=(zf2 (zf1 o1).1).1;by_cases h2:h.loc∈s
   ·rw[if_pos h2];exact⟨fun e=>absurd e (by decide),fun ⟨g1,g2,g3⟩=>absurd h2 (g3 h (List.mem_cons_self ..))⟩
   ·rw[if_neg h2,zf4 r (some h) (h.loc :: s) (fun q e=>by rw[← Option.some.inj e];exact vh)]
    constructor
    ·rintro⟨g1,g2,g3⟩;have g2':=g2 h rfl;refine⟨⟨List.pairwise_cons.2 ⟨g2',g1.srt⟩,fun x hx=>?_,fun x hx y hy e=>?_⟩,fun q e x hx=>?_,fun x hx=>?_⟩
     ·rcases List.mem_cons.1 hx with rfl | hx
      ·exact o1
      ·exact g1.ok x hx
     ·rcases List.mem_cons.1 hx with rfl | hx
      ·rcases List.mem_cons.1 hy with rfl | hy
       ·rfl
       ·exact absurd (by rw[← e];exact List.mem_cons_self ..) (g3 y hy)
      ·rcases List.mem_cons.1 hy with e2 | hy
       ·exact absurd (by rw[e,e2];exact List.mem_cons_self ..) (g3 x hx)
       ·exact g1.loc x hx y hy e
     ·subst e;have hq:z2u q.path h.path<0:=by rw[z4e] at o2;simp at o2;omega
      rcases List.mem_cons.1 hx with rfl | hx
      ·exact hq
      ·exact z5f (hv q rfl) vh (g1.valid x hx) hq (g2' x hx)
     ·rcases List.mem_cons.1 hx with rfl | hx
      ·exact h2
      ·exact fun hs=>g3 x hx (List.mem_cons_of_mem _ hs)
    ·rintro⟨g1,g2,g3⟩;refine⟨⟨g1.srt.tail,fun x hx=>g1.ok x (List.mem_cons_of_mem _ hx),fun x hx y hy=>g1.loc x (List.mem_cons_of_mem _ hx) y (List.mem_cons_of_mem _ hy)⟩,fun q e x hx=>?_,fun x hx hs=>?_⟩
     ·rw[← Option.some.inj e];exact g1.srt.head x hx
     ·rcases List.mem_cons.1 hs with e | hs
      ·exact z5z (g1.srt.head x hx) (g1.loc h (List.mem_cons_self ..) x (List.mem_cons_of_mem _ hx) e.symm)
      ·exact g3 x (List.mem_cons_of_mem _ hx) hs
theorem zf5 {l:List Hav}:z4g l=0↔zf0 l∧l.length≤1024:=by
 unfold z4g;by_cases h:1024<l.length
 ·rw[if_pos h];exact⟨fun e=>absurd e (by decide),fun ⟨_,h2⟩=>by omega⟩
 ·rw[if_neg h,zf4 l none [] (fun q e=>by cases e)]
  exact⟨fun ⟨h1,_⟩=>⟨h1,by omega⟩,fun ⟨h1,_⟩=>⟨h1,(fun q e=>by cases e),(fun x _ hs=>by cases hs)⟩⟩
def zf6 (op dt:List ByteArray)(x:Syn):Int:=if x.path∈op then 6 else if (x.frm≠z2l∧x.frm∈dt)∨(x.dst≠z2l∧x.dst∈dt) then 5 else z3p x.frm x.dst
def zf7 (op dt:List ByteArray)(x:Syn):Syn:={ x with kind:=zf6 op dt x }
def zf8 (hs ws:List Hav)(op dt:List ByteArray):List Syn:=(z6h (hs.length+ws.length) hs ws).map (zf7 op dt)
noncomputable def zf9 (hs ws:List Hav)(op dt:List ByteArray):List Syn:=zeg (blB hs (zf8 hs ws op dt)) (zf8 hs ws op dt)
theorem zfa (a b:Hav):z6i (some a) (some b)=if a=b then none else some (updT a b):=rfl
theorem zfb {h w:Option Hav}{x:Syn}(e:z6i h w=some x):
  (∃ a,h=some a∧w=none∧x=z6g a)∨(∃ b,h=none∧w=some b∧x=z6f b)∨∃ a b,h=some a∧w=some b∧a≠b∧x=updT a b:=by
 cases h with
 | none =>
  cases w with
  | none=>cases e
  | some b=>exact .inr (.inl ⟨b,rfl,rfl,(Option.some.inj e).symm⟩)
 | some a =>
  cases w with
  | none=>exact .inl ⟨a,rfl,rfl,(Option.some.inj e).symm⟩
  | some b =>
   rw[zfa] at e;by_cases eq:a=b
   ·rw[if_pos eq] at e;cases e
   ·rw[if_neg eq] at e;exact .inr (.inr ⟨a,b,rfl,rfl,eq,(Option.some.inj e).symm⟩)
section
variable {hs ws : List Hav} {op dt : List ByteArray}
theorem zfc (h1:zf0 hs)(h2:zf0 ws):z6c (zf8 hs ws op dt)∧∀ p,z6e (zf8 hs ws op dt) p=(z6i (z6d hs p) (z6d ws p)).map (zf7 op dt):=by
 obtain⟨i1,i2⟩:=z6l (hs.length+ws.length) hs ws (Nat.le_refl _) h1.srt h2.srt h1.valid h2.valid;refine⟨z68 i1 fun _=>rfl,fun p=>?_⟩;show z5y Syn.path (List.map _ _) p=_
 rw[z69 (k:=Syn.path) (kb:=Syn.path) (f:=zf7 op dt) (fun _=>rfl)];exact congrArg _ (i2 p)
end
theorem zhw (r:Rev)(w:World):Calls prog 96 #[.agg #[.string r.path,.int .i64 r.num,.int .i64 r.chg,.int .i64 r.act,.int .i64 r.ty.base,.bool r.ty.k,.bool r.ty.l,.bool r.ty.x,.int .u64 r.sum,.int .i64 r.size,.string r.frm,.int .i64 r.fnum]] w fun e w'=>e=.returned (.bool (!z2v r.act))∧Below w.heap.size w w':=by
 have hA:Below w.heap.size w (w.alloc (.cells #[.string r.path,.int .i64 r.num,.int .i64 r.chg,.int .i64 r.act,.int .i64 r.ty.base,.bool r.ty.k,.bool r.ty.l,.bool r.ty.x,.int .u64 r.sum,.int .i64 r.size,.string r.frm,.int .i64 r.fnum] 66)):=(Below.refl _ _).alloc (Nat.le_refl _) _;by_cases h3:r.act=3
 ·have q:(r.act == 3)=true:=by simpa using h3
  have HL:Hid ((!z2v r.act)=true):=hd_ (by rw[h3];rfl)
  clear h3;go_enter func96,ntmps96;go_wp2_with fail;go_ret;exact⟨z0w HL.out.symm,hA⟩
 ·have q:(r.act == 3)=false:=by simpa using h3
  by_cases h5:r.act=5
  ·have q5:(r.act == 5)=true:=by simpa using h5
   have HL:Hid ((!z2v r.act)=true):=hd_ (by rw[h5];rfl)
   clear h3 h5;go_enter func96,ntmps96;go_wp2_with fail;go_ret;exact⟨z0w HL.out.symm,hA⟩
  ·have q5:(r.act == 5)=false:=by simpa using h5
   have HL:Hid ((!z2v r.act)=false):=hd_ (by unfold z2v;simp [h3,h5])
   clear h3 h5;go_enter func96,ntmps96;go_wp2_with fail;go_ret;exact⟨z0w HL.out.symm,hA⟩
def zi6 (es:List Edt)(x:Edt):Nat:=es.countP fun y=>(decide (x.act=5) && decide (y.act=4) && decide (y.frm=x.path)) || (decide (x.act=4) && decide (y.act=5) && decide (y.path=x.frm))
def zi7 (es:List Edt)(x:Edt):Bool:=decide (zi6 es x=1) || (decide (x.act≠5) && decide (x.act≠4))
open Go.Sort (grow)
section
variable {u0 u1 u2 u3 u4 u5 u6 u7 u8 u9 gn gt gu gx gy gz gA gC gD gE gF gG gH gI gJ gK gL gM gN gO gP gQ gR gT gV gW gX gY gZ i6 i7 i8 ia ib ic ie ig ii ij ik il im io ip iq ir iu iv iw ix iy iz iA iB iC iD iE iF iG iH iI iJ iK iL iM iN iO iP iQ iR iS iT iU iV iW : Value}
theorem zio (w:World):(sizeOf 44).run prog w=.ok 3 w:=by kernel_rfl
theorem z4b.head {w:World}{A:Option Addr}{c n:Nat}{x:Hav}{r:List Hav}(h:z4b w (.slice A n c) (x :: r)):
  n=r.length+1∧∃ ad,A=some ad∧ad.block<w.heap.size∧z4c w ad x:=by
 have hn:n=(x :: r).length:=by obtain⟨A',c',e,-⟩:=id h;injection e
 subst hn;obtain⟨ad,e,hb,hc⟩:=z4b.at_ (k:=0) h (by simp)
 refine⟨rfl,ad,e,hb,?_⟩;have:ad.add (0 * 3)=ad:=by unfold Addr.add;simp
 rw[this] at hc;exact hc
theorem z4b.tail {w:World}{A:Option Addr}{c n:Nat}{x:Hav}{r:List Hav}(h:z4b w (.slice A n c) (x :: r)):
  ∃ A' c',(∀ X,(Instr.sliceAt 28 (.slice A n c) (some (.int .i64 1)) none none).run prog X=.ok (.slice A' r.length c') X)∧z4b w (.slice A' r.length c') r:=by
 have hn:n=(x :: r).length:=by obtain⟨A',c',e,-⟩:=id h;injection e
 subst hn;obtain⟨A',c',h1,h2⟩:=zbz (P:=prog) (w:=w) underlying28 zio h (by simp)
 exact⟨A',c',h1,h2⟩
theorem ziq (x y:Hav)(W:World):(binOp .eql 44 (.agg #[.string x.path,.int .i64 x.num,.string x.loc]) (.agg #[.string y.path,.int .i64 y.num,.string y.loc])).run prog W=.ok (.bool (decide (x=y))) W:=by
 obtain⟨a,b,c⟩:=x;obtain⟨d,e,f⟩:=y;rw[run_eql_struct,run_equalIn_agg W 9999 44 _ _ (by kernel_rfl) (by kernel_rfl)]
 simp [go_sem,Op.eqFields,ze7]
 by_cases h1:a=d <;> by_cases h2:b=e <;> by_cases h3:c=f <;> simp [h1,h2,h3]
theorem z6t.set (w:World)(g i:Nat)(u:Value):z6t [g] w (w.setCell ⟨g,i,none⟩ u):=z6t.grown (z6u w g i u) (by simp)
theorem z6t.drew {S:List Nat}{w w':World}(h:z6t S w w'):z6t S w w'.drew:=h.trans (z6t.below (Below.refl _ _).drew)
theorem zir (ops:Array Oper)(hops:Tryz.f34.body.bind (zci 12)=some ops)(Q:Exit→Act→World→Prop)(V1:World)(ad:Addr)(n c g7:Nat)(h:Hav)(v0 v1 v2 v3 v4:Value)(hh:z4c V1 ad h)(hB:Blk V1 g7 48 [v0,v1,v2,v3,v4])(hn:0<n)
  (hQ:∀(eY eZ fa fd fe ff fg fh fj fk:Value) (w':World),z6t [g7] V1 w'→Blk w' g7 48 [v0,.string h.path,v2,.string h.loc,v4]→Q .normal ⟨#[.slice (some ad) n c,u1,u2,u3,u4,u5,u6,.pointer (some ⟨g7,0,none⟩),u8,u9,gn,gt,gu,gx,gy,gz,gA,gC,gD,gE,gF,gG,gH,gI,gJ,gK,gL,gM,gN,gO,gP,gQ,gR,gT,gV,gW,gX,gY,gZ,i6,i7,i8,ia,ib,ic,ie,ig,eY,eZ,fa,fd,fe,ff,fg,fh,fj,fk,iv,iw,ix,iy,iz,iA,iB,iC,iD,iE,iF,iG,iH,iI,iJ,iK,iL,iM,iN,iO,iP,iQ,iR,iS,iT,iU,iV,iW],[]⟩ w'):
  (Code.region 12 ops true).wp prog Q ⟨#[.slice (some ad) n c,u1,u2,u3,u4,u5,u6,.pointer (some ⟨g7,0,none⟩),u8,u9,gn,gt,gu,gx,gy,gz,gA,gC,gD,gE,gF,gG,gH,gI,gJ,gK,gL,gM,gN,gO,gP,gQ,gR,gT,gV,gW,gX,gY,gZ,i6,i7,i8,ia,ib,ic,ie,ig,ii,ij,ik,il,im,io,ip,iq,ir,iu,iv,iw,ix,iy,iz,iA,iB,iC,iD,iE,iF,iG,iH,iI,iJ,iK,iL,iM,iN,iO,iP,iQ,iR,iS,iT,iU,iV,iW],[]⟩ V1:=by
 simp only[Tryz.f34,Option.bind_some,zci] at hops
 simp at hops
 subst hops;obtain⟨x0,x1,x2⟩:=hh;have y1:V1.cell? ⟨g7,1,none⟩=some v1:=hB.cell 1;have y3:V1.cell? ⟨g7,3,none⟩=some v3:=hB.cell 3;have f1:V1.frozen? ⟨g7,1,none⟩=false:=hB.frozen 1;have f3:V1.frozen? ⟨g7,3,none⟩=false:=hB.frozen 3;have hz:(0:Int)<(n:Int):=by omega
 have HQ:=hd_ hQ;have HB:=hd_ hB;clear hQ hB;refine wp_region_noPanic ?_;go_region_law (fail)
 all_goals exact NoPanic.normal (HQ.out _ _ _ _ _ _ _ _ _ _ _ (((z6t.set V1 g7 1 (.string h.path)).trans (z6t.set _ g7 3 (.string h.loc))).drew) ((HB.out.set_ 1 (.string h.path)).set_ 3 (.string h.loc)))
theorem zis (ops:Array Oper)(hops:Tryz.f34.body.bind (zci 15)=some ops)(Q:Exit→Act→World→Prop)(V1:World)(ad:Addr)(n c g7:Nat)(h:Hav)(v0 v1 v2 v3 v4:Value)(hh:z4c V1 ad h)(hB:Blk V1 g7 48 [v0,v1,v2,v3,v4])(hn:0<n)(hne:ad.block≠g7)
  (hQ:∀(fu fv fw fx fy fA fB fC fD fE fF fG fH fI fJ:Value) (w':World),z6t [g7] V1 w'→Blk w' g7 48 [v0,.string h.path,.int .i64 h.num,v3,.string h.loc]→Q .normal ⟨#[u0,.slice (some ad) n c,u2,u3,u4,u5,u6,.pointer (some ⟨g7,0,none⟩),u8,u9,gn,gt,gu,gx,gy,gz,gA,gC,gD,gE,gF,gG,gH,gI,gJ,gK,gL,gM,gN,gO,gP,gQ,gR,gT,gV,gW,gX,gY,gZ,i6,i7,i8,ia,ib,ic,ie,ig,ii,ij,ik,il,im,io,ip,iq,ir,iu,iv,iw,ix,iy,fu,fv,fw,fx,fy,fA,fB,fC,fD,fE,fF,fG,fH,fI,fJ,iO,iP,iQ,iR,iS,iT,iU,iV,iW],[]⟩ w'):
  (Code.region 15 ops true).wp prog Q ⟨#[u0,.slice (some ad) n c,u2,u3,u4,u5,u6,.pointer (some ⟨g7,0,none⟩),u8,u9,gn,gt,gu,gx,gy,gz,gA,gC,gD,gE,gF,gG,gH,gI,gJ,gK,gL,gM,gN,gO,gP,gQ,gR,gT,gV,gW,gX,gY,gZ,i6,i7,i8,ia,ib,ic,ie,ig,ii,ij,ik,il,im,io,ip,iq,ir,iu,iv,iw,ix,iy,iz,iA,iB,iC,iD,iE,iF,iG,iH,iI,iJ,iK,iL,iM,iN,iO,iP,iQ,iR,iS,iT,iU,iV,iW],[]⟩ V1:=by
 simp only[Tryz.f34,Option.bind_some,zci] at hops
 simp at hops
 subst hops;obtain⟨x0,x1,x2⟩:=hh;have y1:V1.cell? ⟨g7,1,none⟩=some v1:=hB.cell 1;have y2:V1.cell? ⟨g7,2,none⟩=some v2:=hB.cell 2;have y4:V1.cell? ⟨g7,4,none⟩=some v4:=hB.cell 4;have f1:V1.frozen? ⟨g7,1,none⟩=false:=hB.frozen 1;have f2:V1.frozen? ⟨g7,2,none⟩=false:=hB.frozen 2;have f4:V1.frozen? ⟨g7,4,none⟩=false:=hB.frozen 4;have hz:(0:Int)<(n:Int):=by omega
 have n1:¬(ad.block=g7):=hne;have n2:¬(g7=ad.block):=fun e=>hne e.symm;have HQ:=hd_ hQ;have HB:=hd_ hB;clear hQ hB;refine wp_region_noPanic ?_;go_region_law (fail)
 all_goals exact NoPanic.normal (HQ.out _ _ _ _ _ _ _ _ _ _ _ _ _ _ _ _ ((((z6t.set V1 g7 1 (.string h.path)).trans (z6t.set _ g7 2 (.int .i64 h.num))).trans (z6t.set _ g7 4 (.string h.loc))).drew) (((HB.out.set_ 1 (.string h.path)).set_ 2 (.int .i64 h.num)).set_ 4 (.string h.loc)))
end
def zjv (w:World)(B:Nat)(v:Value)(l:List Syn):Prop:=w.ownsRow B 48 5 v l.length (l.flatMap Syn.cells)
def zjw (q:Int)(x:Syn):Syn:={ x with kind:=q }
theorem zjx (q:Int):∀(l:List Syn) (k:Nat) (hk:k<l.length),(l.set k (zjw q l[k])).flatMap Syn.cells=(l.flatMap Syn.cells).set (k * 5) (.int .i64 q)
 | [],k,hk=>absurd hk (by simp)
 | x :: r,0,_=>rfl
 | x :: r,k+1,hk=>by
  have ih:=zjx q r k (by simpa using hk)
  have e:(k+1) * 5=k * 5+5:=by omega
  rw[List.getElem_cons_succ,List.set_cons_succ,List.flatMap_cons,List.flatMap_cons,ih,e];rfl
theorem zjv.slice {w:World}{B:Nat}{v:Value}{l:List Syn}(h:zjv w B v l)(hk:0<l.length):∃ g c,v=.slice (some ⟨g,0,none⟩) l.length c∧B≤g∧g<w.heap.size:=by
 obtain⟨-,h2 | ⟨g,cap,cur,e1,h3,h4,-⟩⟩:=h
 ·omega
 ·exact⟨g,cap,e1,h3,(Array.getElem?_eq_some_iff.1 h4).1⟩
theorem zjv.cell {w:World}{B g c n:Nat}{l:List Syn}(h:zjv w B (.slice (some ⟨g,0,none⟩) n c) l){k:Nat}(hk:k<l.length):
  z50 w ⟨g,k * 5,none⟩ l[k]∧w.frozen? ⟨g,k * 5,none⟩=false:=by
 have hn:n=l.length:=by
  obtain⟨A,c',e⟩:=z0o h;injection e
 subst hn;have hat:∀ j u,j<5→l[k].cells[j]? = some u→(l.flatMap Syn.cells)[k * 5+j]? = some u:=by
  intro j u hj hu;rw[z44 Syn.cells 5 (fun _=>rfl) l k j hk hj];exact hu
 have h0:=zac h (j:=k * 5) (hat 0 _ (by omega) rfl)
 exact⟨⟨h0.1,(zac h (j:=k * 5+1) (hat 1 _ (by omega) rfl)).1,(zac h (j:=k * 5+2) (hat 2 _ (by omega) rfl)).1,(zac h (j:=k * 5+3) (hat 3 _ (by omega) rfl)).1,(zac h (j:=k * 5+4) (hat 4 _ (by omega) rfl)).1⟩,h0.2.1⟩
theorem zjv.put {w:World}{B g c n:Nat}{l:List Syn}(h:zjv w B (.slice (some ⟨g,0,none⟩) n c) l){k:Nat}(hk:k<l.length)(q:Int):
  zjv (w.setCell ⟨g,k * 5,none⟩ (.int .i64 q)) B (.slice (some ⟨g,0,none⟩) n c) (l.set k (zjw q l[k])):=by
 have hn:n=l.length:=by
  obtain⟨A,c',e⟩:=z0o h;injection e
 subst hn;unfold zjv;rw[List.length_set,zjx q l k hk];exact zab h _
def zk4 (hs:List Hav)(p:ByteArray):ByteArray:=((z6d hs p).map Hav.loc).getD z2l
section
variable {hs ws : List Hav} {op dt : List ByteArray}
theorem zk5 {l:List Hav}{p:ByteArray}{a:Hav}(h:z6d l p=some a):a∈l∧a.path=p:=z61 h
theorem zpw {l:List Hav}(h:zf0 l){a:Hav}(ha:a∈l):z6d l a.path=some a:=z65 h.srt ha
end
abbrev Fl:=ByteArray×ByteArray
def Shut (b:ByteArray→Bool)(pr:List Syn)(p l:ByteArray):Prop:=∀ x∈pr,z3o x.kind=false→b x.path=false→x.dst≠z2l→x.dst=l→x.path=p
structure BkIn (hs:List Hav)(pl:List Syn)(b:ByteArray→Bool)(Q:List Fl)(p l:ByteArray)(pr:List Syn):Prop where
 sound:∀ q,b q=true→Bl hs pl q
 one:(∃ h∈hs,h.path=p∧h.loc=l)∧zem pl b p
 que:∀ q∈Q,(∃ h∈hs,h.path=q.1∧h.loc=q.2)∧zem pl b q.1
 done:∀ h∈hs,zem pl b h.path→(h.path,h.loc)∈Q∨Shut b pl h.path h.loc∨(h.path=p∧h.loc=l)
 shut:Shut b pr p l
structure BkSt (hs:List Hav)(pl:List Syn)(b:ByteArray→Bool)(Q:List Fl):Prop where
 sound:∀ q,b q=true→Bl hs pl q
 que:∀ q∈Q,(∃ h∈hs,h.path=q.1∧h.loc=q.2)∧zem pl b q.1
 done:∀ h∈hs,zem pl b h.path→(h.path,h.loc)∈Q∨Shut b pl h.path h.loc
def setB (b:ByteArray→Bool)(p:ByteArray):ByteArray→Bool:=fun q=>decide (q=p) || b q
section
variable {hs : List Hav} {pl : List Syn} {b : ByteArray → Bool} {Q : List Fl}
theorem zkb {p q:ByteArray}(h:b q=true):setB b p q=true:=by unfold setB;rw[h,Bool.or_true]
theorem zkc {p:ByteArray}:setB b p p=true:=by unfold setB;simp
theorem zkd {p q:ByteArray}(h:setB b p q=true):q=p∨b q=true:=by unfold setB at h;simpa using h
theorem zke {p q:ByteArray}(h:setB b p q=false):q≠p∧b q=false:=by
 unfold setB at h;simp only[Bool.or_eq_false_iff,decide_eq_false_iff_not] at h
 exact h
theorem zkf {p q:ByteArray}(h:zem pl b q):zem pl (setB b p) q:=by
 rcases h with h | ⟨y,h,h1 | h1⟩
 ·exact .inl h
 ·exact .inr ⟨y,h,.inl h1⟩
 ·exact .inr ⟨y,h,.inr (zkb h1)⟩
theorem zkg {p q l:ByteArray}{pr:List Syn}(h:Shut b pr q l):Shut (setB b p) pr q l:=fun x hx h1 h2=>h x hx h1 (zke h2).2
theorem bk_init (hs:List Hav)(pl:List Syn)(Q:List Fl)(hq:∀ q,q∈Q↔∃ h∈hs,(h.path,h.loc)=q∧zem pl (fun _=>false) h.path):BkSt hs pl (fun _=>false) Q:=
 ⟨(fun q h=>by cases h),(fun q hQ=>by
  obtain⟨f,h1,h2,h3⟩:=(hq q).1 hQ;subst h2;exact⟨⟨f,h1,rfl,rfl⟩,h3⟩),fun f hh hs2=>.inl ((hq _).2 ⟨f,hh,rfl,hs2⟩)⟩
theorem bk_pop {p l:ByteArray}(h:BkSt hs pl b ((p,l) :: Q)):BkIn hs pl b Q p l []:=
 ⟨h.sound,h.que _ (List.mem_cons_self ..),fun q hq=>h.que q (List.mem_cons_of_mem _ hq),(fun x hx hs2=>by
  rcases h.done x hx hs2 with h1 | h1
  ·rcases List.mem_cons.1 h1 with h1 | h1
   ·exact .inr (.inr (by injection h1 with a c;exact⟨a,c⟩))
   ·exact .inl h1
  ·exact .inr (.inl h1)),(fun x hx=>by cases hx)⟩
theorem bk_skip {p l:ByteArray}{pr:List Syn}{x:Syn}(h:BkIn hs pl b Q p l pr)(hx:x.path=p∨z3o x.kind=true∨b x.path=true):BkIn hs pl b Q p l (pr++[x]):=
 ⟨h.sound,h.one,h.que,h.done,fun y hy h1 h2 h3 h4=>by
  rcases List.mem_append.1 hy with hy | hy
  ·exact h.shut y hy h1 h2 h3 h4
  ·rw[List.mem_singleton] at hy;subst hy;rcases hx with e | e | e
   ·exact e
   ·rw[h1] at e;cases e
   ·rw[h2] at e;cases e⟩
theorem zkh {p l:ByteArray}{pr:List Syn}{x:Syn}(hsrt:z6c pl)(h1:zf0 hs)(hfrm:∀ x∈pl,x.frm=zk4 hs x.path)(h:BkIn hs pl b Q p l pr)(hx:x∈pl)(hp:x.path≠p)(hk:z3o x.kind=false)(hd:x.dst≠z2l)(hl:x.dst=l):
  BkIn hs pl (setB b x.path) (if x.frm=z2l then Q else Q++[(x.path,x.frm)]) p l (pr++[x]):=by
 have hg:z6e pl x.path=some x:=z65 hsrt hx;have hst:zem pl (setB b x.path) x.path:=.inr ⟨x,hg,.inr zkc⟩;obtain⟨⟨f,f1,f2,f3⟩,f4⟩:=h.one;refine⟨fun q hq=>?_,⟨⟨f,f1,f2,f3⟩,zkf f4⟩,fun q hq=>?_,fun y hy hs2=>?_,fun y hy e1 e2 e3 e4=>?_⟩
 ·rcases zkd hq with rfl | hq
  ·exact zen h.sound hx hk hd f1 (by rw[f3,hl]) (by rw[f2];exact fun e=>hp e.symm) (by rw[f2];exact f4)
  ·exact h.sound q hq
 ·by_cases hf:x.frm=z2l
  ·rw[if_pos hf] at hq;obtain⟨a,c⟩:=h.que q hq;exact⟨a,zkf c⟩
  ·rw[if_neg hf] at hq;rcases List.mem_append.1 hq with hq | hq
   ·obtain⟨a,c⟩:=h.que q hq;exact⟨a,zkf c⟩
   ·rw[List.mem_singleton] at hq;subst hq;refine⟨?_,hst⟩;have e:=hfrm x hx;unfold zk4 at e;cases hh:z6d hs x.path with
    | none=>rw[hh] at e;exact absurd e hf
    | some a =>
     rw[hh] at e;obtain⟨m1,m2⟩:=zk5 hh;exact⟨a,m1,m2,e.symm⟩
 ·by_cases ep:y.path=x.path
  ·-- the file of the step that was blocked just now
   have e:=hfrm x hx;unfold zk4 at e;rw[← ep,zpw h1 hy] at e;have e':x.frm=y.loc:=e;have hf:¬ x.frm=z2l:=by rw[e'];exact h1.locNe hy
   rw[if_neg hf];exact .inl (List.mem_append.2 (.inr (by rw[List.mem_singleton,ep,e'])))
  ·have hs3:zem pl b y.path:=by
    rcases hs2 with h2 | ⟨z,h2,h3 | h3⟩
    ·exact .inl h2
    ·exact .inr ⟨z,h2,.inl h3⟩
    ·rcases zkd h3 with h3 | h3
     ·exact absurd h3 ep
     ·exact .inr ⟨z,h2,.inr h3⟩
   rcases h.done y hy hs3 with h2 | h2 | h2
   ·refine .inl ?_;split
    ·exact h2
    ·exact List.mem_append.2 (.inl h2)
   ·exact .inr (.inl (zkg h2))
   ·exact .inr (.inr h2)
 ·obtain⟨o1,o2⟩:=zke e2;rcases List.mem_append.1 hy with hy | hy
  ·exact h.shut y hy e1 o2 e3 e4
  ·rw[List.mem_singleton] at hy;subst hy;exact absurd rfl o1
theorem bk_end {p l:ByteArray}{pr:List Syn}(h1:zf0 hs)(h:BkIn hs pl b Q p l pr)(hall:∀ x∈pl,x.dst≠z2l→x.dst=l→x∈pr):BkSt hs pl b Q:=
 ⟨h.sound,h.que,fun y hy hs2=>by
  rcases h.done y hy hs2 with h2 | h2 | ⟨h2,h3⟩
  ·exact .inl h2
  ·exact .inr h2
  ·refine .inr fun x hx e1 e2 e3 e4=>?_;rw[h3] at e4;rw[h2];exact h.shut x (hall x hx e3 e4) e1 e2 e3 e4⟩
theorem bk_over (h:BkSt hs pl b []):b=blB hs pl:=
 bl_eq h.sound fun x hx h1 h2 h3 f hf h4 h5 h6=>by
  rcases h.done f hf h6 with h7 | h7
  ·cases h7
  ·exact h5 (h7 x hx h1 h2 h3 h4.symm).symm
def zki (b:ByteArray→Bool)(pl:List Syn):Nat:=(pl.filter fun x=>!z3o x.kind && !b x.path).length
theorem zkj {x:Syn}(hx:x∈pl)(hk:z3o x.kind=false)(hb:b x.path=false):zki (setB b x.path) pl+1≤zki b pl:=by
 unfold zki;induction pl with
 | nil=>cases hx
 | cons y pl ih =>
  have le:∀ l:List Syn,(l.filter fun z=>!z3o z.kind && !(setB b x.path) z.path).length≤(l.filter fun z=>!z3o z.kind && !b z.path).length:=by
   intro l;induction l with
   | nil=>exact Nat.le_refl _
   | cons z l ih =>
    rw[List.filter_cons,List.filter_cons];by_cases c:(!z3o z.kind && !(setB b x.path) z.path)=true
    ·have c2:(!z3o z.kind && !b z.path)=true:=by
      simp only[Bool.and_eq_true,Bool.not_eq_true'] at c ⊢
      exact⟨c.1,(zke c.2).2⟩
     rw[if_pos c,if_pos c2];exact Nat.succ_le_succ ih
    ·rw[if_neg c];split
     ·exact Nat.le_succ_of_le ih
     ·exact ih
  rw[List.filter_cons,List.filter_cons];by_cases e:y.path=x.path
  ·have c1:¬(!z3o y.kind && !(setB b x.path) y.path)=true:=by rw[e,zkc];simp
   rw[if_neg c1];rcases List.mem_cons.1 hx with rfl | hx
   ·have c2:(!z3o x.kind && !b x.path)=true:=by rw[hk,hb];rfl
    rw[if_pos c2];exact Nat.succ_le_succ (le pl)
   ·split
    ·exact Nat.le_succ_of_le (ih hx)
    ·exact ih hx
  ·have hx':x∈pl:=by
    rcases List.mem_cons.1 hx with rfl | h
    ·exact absurd rfl e
    ·exact h
   have same:(setB b x.path) y.path=b y.path:=by unfold setB;rw[decide_eq_false e,Bool.false_or]
   rw[same];split
   ·exact Nat.succ_le_succ (ih hx')
   ·exact ih hx'
end
def zle:List ByteArray:=[⟨#[47,47,99,47,97]⟩,⟨#[47,47,99,47,98]⟩,⟨#[47,47,99,47,120,47,97]⟩,⟨#[47,47,99,47,120,47,98]⟩,⟨#[47,47,119,47,97]⟩,⟨#[47,47,99,47,101]⟩,⟨#[47,47,99,47,120,47,122]⟩,⟨#[47,47,113,47,113]⟩]
theorem zlf:∀ p∈zle,z3q p=true:=by decide +kernel
structure zlg (x y:Hav):Prop where
 path:y.path=x.path
 loc:z3q y.loc=true
 num:1≤y.num∧y.num≤x.num+1
structure HvSt (l:List Hav)(k:Nat)(out:List Hav):Prop where
 srt:z6b out
 ok:∀ x∈out,x.okB=true
 one:∀ x∈out,∀ y∈out,x.loc=y.loc→x.path=y.path
 of:∀ x∈out,∃(j:Nat) (hj:j<l.length),j<k∧x.path=l[j].path
 len:out.length≤k
theorem hv_0 (l:List Hav):HvSt l 0 []:=⟨List.Pairwise.nil,(fun x h=>by cases h),(fun x h=>by cases h),(fun x h=>by cases h),Nat.le_refl _⟩
theorem hv_skip {l out:List Hav}{k:Nat}(h:HvSt l k out):HvSt l (k+1) out:=
 ⟨h.srt,h.ok,h.one,(fun x hx=>by obtain⟨j,hj,h1,h2⟩:=h.of x hx;exact⟨j,hj,by omega,h2⟩),Nat.le_succ_of_le h.len⟩
theorem hv_put {l out:List Hav}{k:Nat}{y:Hav}(h:HvSt l k out)(hl:zf0 l)(hk:k<l.length)(hy:zlg l[k] y)(hn:∀ x∈out,x.loc≠y.loc):HvSt l (k+1) (out++[y]):=by
 refine⟨?_,fun x hx=>?_,fun a ha b hb e=>?_,fun x hx=>?_,by rw[List.length_append];exact Nat.succ_le_succ h.len⟩
 ·refine z67 h.srt (List.pairwise_singleton _ _) fun a ha b hb=>?_;rw[List.mem_singleton] at hb;subst hb;obtain⟨j,hj,h1,h2⟩:=h.of a ha;rw[h2,hy.path];exact List.pairwise_iff_getElem.1 hl.srt j k hj hk h1
 ·rcases List.mem_append.1 hx with hx | hx
  ·exact h.ok x hx
  ·rw[List.mem_singleton] at hx;subst hx;have h0:=zf1 (hl.ok _ (List.getElem_mem hk));unfold Hav.okB;rw[hy.path,h0.1,hy.loc];have:=hy.num.1;simp
   omega
 ·rcases List.mem_append.1 ha with ha1 | ha1
  ·rcases List.mem_append.1 hb with hb1 | hb1
   ·exact h.one a ha1 b hb1 e
   ·rw[List.mem_singleton] at hb1;rw[hb1] at e;exact absurd e (hn a ha1)
  ·rw[List.mem_singleton] at ha1;rcases List.mem_append.1 hb with hb1 | hb1
   ·rw[ha1] at e;exact absurd e.symm (hn b hb1)
   ·rw[List.mem_singleton] at hb1;rw[ha1,hb1]
 ·rcases List.mem_append.1 hx with hx | hx
  ·obtain⟨j,hj,h1,h2⟩:=h.of x hx;exact⟨j,hj,by omega,h2⟩
  ·rw[List.mem_singleton] at hx;subst hx;exact⟨k,hk,by omega,hy.path⟩
theorem hv_end {l out:List Hav}{k:Nat}(h:HvSt l k out):zf0 out:=⟨h.srt,h.ok,h.one⟩
theorem zma {x y:ByteArray}(hy:z79 y=false):z9s x y=decide (x=y):=by
 unfold z9s;rw[hy];by_cases h:x=y
 ·rw[if_pos h,decide_eq_true h]
 ·rw[if_neg h,decide_eq_false h];rfl
theorem zmb {x y:ByteArray}(hx:z79 x=true)(hy:z79 y=true):z9s x y=Lib.hasSuffix (z80 x).data.toList (z80 y).data.toList:=by
 unfold z9s;rw[hx,hy];by_cases h:x=y
 ·rw[if_pos h,h];symm
  unfold Lib.hasSuffix;exact List.isSuffixOf_iff_suffix.2 (List.suffix_refl _)
 ·rw[if_neg h];rfl
theorem zmc {x y:ByteArray}(hx:z79 x=false)(hy:z79 y=true):z9s x y=z82 y x:=by
 unfold z9s;rw[hx,hy];rw[if_neg (fun h=>by rw[h,hy] at hx;cases hx)];rfl
theorem zmd {x:ByteArray}(h:z7b x≠0)(hx:z79 x=false):z0v x=true:=by
 unfold z7b at h;rw[hx] at h;cases hc:z0v x with
 | true=>rfl
 | false=>rw[hc] at h;exact absurd rfl h
theorem zme (x y:ByteArray)(w:World)(hx:z7b x≠0)(hy:z7b y≠0)(zx:x.size≤1000000)(zy:y.size≤1000000):
  Calls prog 223 #[.string x,.string y] w fun e w'=>e=.returned (.bool (z9s x y))∧Below w.heap.size w w':=by
 have HX:=hd_ (fun X=>z9n x X (by unfold maxLen;omega))
 have HY:=hd_ (fun X=>z9n y X (by unfold maxLen;omega))
 have HC:=hd_ (fun X=>z9r y x X (by unfold maxLen;omega) (by unfold maxLen;omega))
 have HS:=hd_ (fun X=>z9p (z80 x) (z80 y) X _ (by unfold z80;rw[ByteArray.size_extract];omega) rfl)
 unfold z9k at HX HY;rw[z9b hx] at HX;rw[z9b hy] at HY;cases hsy:z79 y with
 | false =>
  have HR:=hd_ (zma (x:=x) hsy);have HE:=hd_ (z84 x y);rw[hsy] at HY;clear hsy HC HS;generalize z79 x=sx at HX;generalize (if sx=true then z80 x else z2l)=ux at HX;go_enter func223,ntmps223;go_wp2_with fail;refine (HX.out _).mono ?_;rintro e w' ⟨rfl,rfl⟩;go_wp2_with fail;refine (HY.out _).mono ?_;rintro e w' ⟨rfl,rfl⟩;go_wp2_with fail;go_ret;exact⟨by rw[HR.out,← HE.out];rfl,Below.refl _ _⟩
 | true =>
  cases hsx:z79 x with
  | true =>
   have HR:=hd_ (zmb hsx hsy);rw[hsy] at HY;rw[hsx] at HX;rw[if_pos rfl] at HX HY;clear hsy hsx HC;generalize z80 x=ux at HX HS HR;generalize z80 y=uy at HY HS HR;generalize Lib.hasSuffix ux.data.toList uy.data.toList=b at HS HR;go_enter func223,ntmps223;go_wp2_with fail;refine (HX.out _).mono ?_;rintro e w' ⟨rfl,rfl⟩;go_wp2_with fail;refine (HY.out _).mono ?_;rintro e w' ⟨rfl,rfl⟩;go_wp2_with fail;refine (HS.out _).mono ?_;rintro e w' ⟨rfl,rfl⟩;go_wp2_with fail;go_ret;exact⟨by rw[HR.out];rfl,Below.refl _ _⟩
  | false =>
   have HR:=hd_ (zmc hsx hsy);rw[z9g hy (zmd hx hsx)] at HC;rw[hsy] at HY;rw[hsx] at HX;clear hsy hsx HS;rw[if_pos rfl] at HY;generalize z80 y=uy at HY;generalize z82 y x=b at HC HR;generalize z97 y x=c at HC;go_enter func223,ntmps223;go_wp2_with fail;refine (HX.out _).mono ?_;rintro e w' ⟨rfl,rfl⟩;go_wp2_with fail;refine (HY.out _).mono ?_;rintro e w' ⟨rfl,rfl⟩;go_wp2_with fail;refine (HC.out _).mono ?_;rintro e w' ⟨rfl,rfl⟩;go_wp2_with fail;go_ret;exact⟨by rw[HR.out];rfl,Below.refl _ _⟩
def zop:Hav:=⟨z2l,0,z2l⟩
def HgPost (w:World)(o:Option Hav)(e:Ending)(w':World):Prop:=e=.returned (.tuple #[.agg #[.string (o.getD zop).path,.int .i64 (o.getD zop).num,.string (o.getD zop).loc],.bool o.isSome])∧Below w.heap.size w w'
theorem zqs {k:Hav→ByteArray}{l:List Hav}{p:ByteArray}{i:Nat}(hi:i<l.length)(h:∀ j (hj:j<l.length),j<i→k l[j]≠p)(e:k l[i]=p):z5y k l p=some l[i]:=by
 unfold z5y;rw[List.find?_eq_some_iff_getElem];exact⟨by simpa using e,i,hi,rfl,fun j hj=>by simpa using h j (by omega) hj⟩
theorem zoq {k:Hav→ByteArray}{l:List Hav}{p:ByteArray}(h:∀ j (hj:j<l.length),k l[j]≠p):z5y k l p=none:=z62.2 fun a ha=>by
 obtain⟨j,hj,rfl⟩:=List.getElem_of_mem ha;exact h j hj
theorem zor (l:List Hav)(v:Value)(s:ByteArray)(w:World)(hL:z4b w v l)(hl:l.length≤1000000):
  Calls prog 61 #[v,.string s] w (HgPost w (z5y Hav.loc l s)):=by
 obtain⟨A,c,rfl,-⟩:=id hL;have hA:Below w.heap.size w (w.alloc (.cells #[.string ⟨#[]⟩,.int .i64 0,.string ⟨#[]⟩] 44)):=(Below.refl _ _).alloc (Nat.le_refl _) _;have HB:Hid (Blk _ _ 44 [.string ⟨#[]⟩,.int .i64 0,.string ⟨#[]⟩]):=hd_ (z0l w _ _);have HA:=hd_ hA;have HL:=hd_ hL;clear hL hA;go_enter func61,ntmps61;go_upto_region 1 with fail;generalize w.alloc (.cells #[.string ⟨#[]⟩,.int .i64 0,.string ⟨#[]⟩] 44)=W1 at HA HB ⊢;go_wp2_with fail;go_loop [6] (fun i=>∃ k:Nat,i=.int .i64 k∧k≤l.length∧Hid (∀ j (hj:j<l.length),j<k→l[j].loc≠s)) (fun i=>l.length - (intOf i).toNat)
 case atStart=>exact⟨0,rfl,Nat.zero_le _,hd_ (fun j _ h=>by omega)⟩
 case round =>
  obtain⟨k,rfl,hk,HI⟩:=hrel;obtain⟨f0,f1,f2⟩:=(⟨HB.out.frozen 0,HB.out.frozen 1,HB.out.frozen 2⟩:W1.frozen? ⟨w.heap.size,0,none⟩=false∧W1.frozen? ⟨w.heap.size,1,none⟩=false∧W1.frozen? ⟨w.heap.size,2,none⟩=false);obtain⟨z0,z1,z2⟩:=(⟨HB.out.cell 0,HB.out.cell 1,HB.out.cell 2⟩:W1.cell? ⟨w.heap.size,0,none⟩=some (.string ⟨#[]⟩)∧W1.cell? ⟨w.heap.size,1,none⟩=some (.int .i64 0)∧W1.cell? ⟨w.heap.size,2,none⟩=some (.string ⟨#[]⟩));by_cases hlt:k<l.length
  ·obtain⟨ad,rfl,hab,s0,s1,s2⟩:=z4b.at_ (Row.below HL.out HA.out) hlt;have HNX:Hid (l[k].loc≠s→∀ j (hj:j<l.length),j<k+1→l[j].loc≠s):=hd_ fun h j hj hjk=>by
    by_cases e:j=k
    ·subst e;exact h
    ·exact HI.out j hj (by omega)
   have HYE:=hd_ (zqs (k:=Hav.loc) (p:=s) hlt HI.out);generalize l[k]=x at s0 s1 s2 HNX HYE;have HLT:=hd_ hlt;by_cases h1:x.loc=s
   ·have q1:(x.loc.toList == s.toList)=true:=by rw[z3x,decide_eq_true h1]
    have HR:=hd_ (HYE.out h1);clear h1;go_wp2_with fail;have hE:=((HB.out.set_ 0 (.string x.path)).set_ 1 (.int .i64 x.num)).set_ 2 (.string x.loc);have hb:=((HA.out.setCell (p:=⟨w.heap.size,0,none⟩) (by simp) (.string x.path)).setCell (p:=⟨w.heap.size,1,none⟩) (by simp) (.int .i64 x.num)).setCell (p:=⟨w.heap.size,2,none⟩) (by simp) (.string x.loc)
    generalize ((W1.setCell ⟨w.heap.size,0,none⟩ (.string x.path)).setCell ⟨w.heap.size,1,none⟩ (.int .i64 x.num)).setCell ⟨w.heap.size,2,none⟩ (.string x.loc)=W8 at hE hb ⊢;have e0:=hE.cell 0;have e1:=hE.cell 1;have e2:=hE.cell 2;exact bodyPost_ret (v:=.tuple #[.agg #[.string x.path,.int .i64 x.num,.string x.loc],.bool true]) (by simp [results,results61,go_sem,e0,e1,e2]) rfl ⟨by rw[HR.out];rfl,hb⟩
   ·have q1:(x.loc.toList == s.toList)=false:=by rw[z3x,decide_eq_false h1]
    have HN:=hd_ (HNX.out h1);clear h1;go_wp2_with fail;go_round
    case rel=>exact⟨k+1,by go_num,by have:=HLT.out;omega,HN⟩
    case measure=>have:=HLT.out;simp [intOf];omega
  ·have hke:k=l.length:=by omega
   subst hke;have HR:=hd_ (zoq (k:=Hav.loc) (p:=s) (fun j hj=>HI.out j hj hj));go_wp2_with fail;have hE:=((HB.out.set_ 0 (.string ⟨#[]⟩)).set_ 1 (.int .i64 0)).set_ 2 (.string ⟨#[]⟩);have hb:=((HA.out.setCell (p:=⟨w.heap.size,0,none⟩) (by simp) (.string ⟨#[]⟩)).setCell (p:=⟨w.heap.size,1,none⟩) (by simp) (.int .i64 0)).setCell (p:=⟨w.heap.size,2,none⟩) (by simp) (.string ⟨#[]⟩)
   generalize ((W1.setCell ⟨w.heap.size,0,none⟩ (.string ⟨#[]⟩)).setCell ⟨w.heap.size,1,none⟩ (.int .i64 0)).setCell ⟨w.heap.size,2,none⟩ (.string ⟨#[]⟩)=W8 at hE hb ⊢;have e0:=hE.cell 0;have e1:=hE.cell 1;have e2:=hE.cell 2;exact bodyPost_ret (v:=.tuple #[.agg #[.string ⟨#[]⟩,.int .i64 0,.string ⟨#[]⟩],.bool false]) (by simp [results,results61,go_sem,e0,e1,e2]) rfl ⟨by rw[HR.out];rfl,hb⟩
end Go.Proofs.YtegeboijhifmcaaGreatDoor
