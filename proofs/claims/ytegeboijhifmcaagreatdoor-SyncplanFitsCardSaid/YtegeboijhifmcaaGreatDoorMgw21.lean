/- The reference's Compare, Order, Before: the walks. -/
import Derived.Test.YtegeboijhifmcaaGreatDoorMgw3
import Derived.Test.YtegeboijhifmcaaGreatDoorMgw5
import Derived.Test.YtegeboijhifmcaaGreatDoorMgw7
import Derived.Test.YtegeboijhifmcaaGreatDoorMgw6
import Derived.Test.YtegeboijhifmcaaGreatDoorMgw17
import Derived.Test.YtegeboijhifmcaaGreatDoorMgw16
import Derived.Test.YtegeboijhifmcaaGreatDoorMgw10
import Derived.Test.YtegeboijhifmcaaGreatDoorMgw14
import Derived.Test.YtegeboijhifmcaaGreatDoorMgw15
import Derived.StillTailTactics
import Derived.IntWalk
import Derived.Deep.CutBlock
namespace Go.Proofs.YtegeboijhifmcaaGreatDoor
set_option linter.unusedVariables false
set_option linter.unusedSimpArgs false
set_option maxHeartbeats 4000000
set_option maxRecDepth 100000
open Go.RowKit
theorem zhh (a b:ByteArray)(w:World):Calls Tryz.prog 211 #[.string a,.string b] w fun e w'=>e=.returned (.int .i64 (Lib.compareBytes a.data.toList b.data.toList))∧w=w':=
 (Tryz.strings_Compare a b w).mono fun e w' ⟨h1,h2⟩=>⟨h1,h2.symm⟩
def zhi (ps qs:List (List UInt8))(k:Nat):Prop:=zh8 (ps.drop k) (qs.drop k)=zh8 ps qs
theorem zhj {ps qs:List (List UInt8)}{k:Nat}(h1:k<ps.length)(h2:k<qs.length)(h:zhi ps qs k):(Lib.compareBytes ps[k] qs[k]=0→zhi ps qs (k+1))∧(Lib.compareBytes ps[k] qs[k]≠0→zh8 ps qs=Lib.compareBytes ps[k] qs[k]):=by
 unfold zhi at h ⊢
 rw[List.drop_eq_getElem_cons h1,List.drop_eq_getElem_cons h2,zh8] at h;refine⟨fun h0=>?_,fun h0=>?_⟩
 ·rw[if_pos h0] at h;exact h
 ·rw[if_neg h0] at h;exact h.symm
theorem zhk {ps qs:List (List UInt8)}{k:Nat}(h:zhi ps qs k)(hk:k≤ps.length)(hk2:k≤qs.length)(he:k=ps.length∨k=qs.length):zh8 ps qs=if ps.length<qs.length then -1 else if qs.length<ps.length then 1 else 0:=by
 unfold zhi at h;rw[← h];rcases he with rfl | rfl
 ·rw[List.drop_length];by_cases hq:ps.length<qs.length
  ·rw[if_pos hq,List.drop_eq_getElem_cons hq];rfl
  ·have:ps.length=qs.length:=by omega
   rw[if_neg hq,if_neg (by omega),this,List.drop_length];rfl
 ·rw[List.drop_length];by_cases hq:qs.length<ps.length
  ·rw[if_neg (by omega),if_pos hq,List.drop_eq_getElem_cons hq];rfl
  ·have:ps.length=qs.length:=by omega
   rw[if_neg (by omega),if_neg hq,← this,List.drop_length];rfl
theorem zhl (ps qs:List (List UInt8))(g1 g2:Nat)(w:World)(hp:z8k w g1 0 ps)(hq:z8k w g2 0 qs)(h1:ps.length≤2000001)(h2:qs.length≤2000001):
  Calls Tryz.prog 212 #[.slice (some ⟨g1,0,none⟩) ps.length ps.length,.slice (some ⟨g2,0,none⟩) qs.length qs.length] w fun e w'=>e=.returned (.int .i64 (zh8 ps qs))∧Below w.heap.size w w':=by
 have HP:=hd_ hp;have HQ:=hd_ hq;have HC:=hd_ (fun a b X=>zhh a b X);clear hp hq;go_enter Tryz.func212,Tryz.ntmps212;go_wp2_with fail;go_loopw [5] (fun s wr=>∃ k:Nat,s=.int .i64 k∧k≤ps.length∧k≤qs.length∧Hid (zhi ps qs k∧Below w.heap.size w wr)) (fun s _=>ps.length - (intOf s).toNat)
 case atStart=>exact⟨0,rfl,Nat.zero_le _,Nat.zero_le _,rfl,Below.refl _ _⟩
 case round =>
  obtain⟨k,rfl,hk,hk2,HI⟩:=hrel;by_cases hlt:k<ps.length
  ·by_cases hlt2:k<qs.length
   ·have hx:wr.cell? ⟨g1,k,none⟩=some (.string (baL ps[k])):=by
     have h:=HP.out k hlt;rw[Nat.zero_add] at h;exact z04 h HI.out.2 (z03 h)
    have hy:wr.cell? ⟨g2,k,none⟩=some (.string (baL qs[k])):=by
     have h:=HQ.out k hlt2;rw[Nat.zero_add] at h;exact z04 h HI.out.2 (z03 h)
    have HN:=hd_ (zhj hlt hlt2 HI.out.1);have z1:(k:Int)<(ps.length:Int):=by omega
    have z2:(k:Int)<(qs.length:Int):=by omega
    have d1:decide (k<ps.length)=true:=by simp;omega
    have d2:decide (k<qs.length)=true:=by simp;omega
    generalize ps[k]=x at hx HN;generalize qs[k]=y at hy HN;go_wp2_with fail;go_quiet ((go_at_call 211;exact z3k (zhh _ _ _)))
    clear hx hy d1 d2;have HB:Hid (Below w.heap.size w (wr.drewN nq)):=hd_ (z0p HI.out.2 nq);generalize wr.drewN nq=wz at HB ⊢;rw[z6w,z6w];by_cases h0:Lib.compareBytes x y=0
    ·have HA:=hd_ (HN.out.1 h0);rw[h0];clear h0 HN;go_wp2_with fail;go_roundw
     case rel=>exact⟨k+1,by go_num,by omega,by omega,HA.out,HB.out⟩
     case measure=>simp [intOf];omega
    ·have HA:=hd_ (HN.out.2 h0);have q:(Lib.compareBytes x y != 0)=true:=by simpa using h0
     generalize Lib.compareBytes x y=c at HA q;clear h0 HN;go_wp2_with fail;go_ret;exact⟨by rw[HA.out];rfl,HB.out⟩
   ·have d1:decide (k<ps.length)=true:=by simp;omega
    have d2:decide (k<qs.length)=false:=by simp;omega
    have HA:=hd_ (zhk HI.out.1 hk hk2 (.inr (by omega)))
    have d3:decide (ps.length<qs.length)=false:=by simp;omega
    have d4:decide (qs.length<ps.length)=true:=by simp;omega
    have HV:Hid ((if ps.length<qs.length then (-1:Int) else if qs.length<ps.length then 1 else 0)=1):=hd_ (by rw[if_neg (by omega),if_pos (by omega)])
    go_wp2_with fail;go_ret;exact⟨by rw[HA.out,HV.out];rfl,HI.out.2⟩
  ·have d1:decide (k<ps.length)=false:=by simp;omega
   have HA:=hd_ (zhk HI.out.1 hk hk2 (.inl (by omega)))
   by_cases hq:ps.length<qs.length
   ·have d3:decide (ps.length<qs.length)=true:=by simp;omega
    have HV:Hid ((if ps.length<qs.length then (-1:Int) else if qs.length<ps.length then 1 else 0)=-1):=hd_ (by rw[if_pos (by omega)])
    go_wp2_with fail;go_ret;exact⟨by rw[HA.out,HV.out];rfl,HI.out.2⟩
   ·have d3:decide (ps.length<qs.length)=false:=by simp;omega
    have d4:decide (qs.length<ps.length)=false:=by simp;omega
    have HV:Hid ((if ps.length<qs.length then (-1:Int) else if qs.length<ps.length then 1 else 0)=0):=hd_ (by rw[if_neg (by omega),if_neg (by omega)])
    go_wp2_with fail;go_ret;exact⟨by rw[HA.out,HV.out];rfl,HI.out.2⟩
def OrdPost (w:World)(a b:ByteArray)(e:Ending)(w':World):Prop:=∃ n:Int,e=.returned (.int .i64 n)∧Below w.heap.size w w'∧(z2s a=true→z2s b=true→n=z2u a b)
theorem zhm {a:ByteArray}(h:z2q a.data.toList 2=none):z2s a=false:=by unfold z2s z2r;rw[h];rfl
def zhn (a b:ByteArray):Int:=match z2q a.data.toList 2,z2q b.data.toList 2 with
 | none,none=>Lib.compareBytes a.data.toList b.data.toList
 | none,some _=>-1
 | some _,none=>1
 | some ps,some qs=>zh8 ps qs
theorem zho {a b:ByteArray}(ha:z2s a=true)(hb:z2s b=true):zhn a b=z2u a b:=by
 unfold zhn;cases hda:z2q a.data.toList 2 with
 | none=>rw[zhm hda] at ha;cases ha
 | some ps =>
  cases hdb:z2q b.data.toList 2 with
  | none=>rw[zhm hdb] at hb;cases hb
  | some qs=>exact (zhg hda hdb).symm
theorem zhp (a b:ByteArray)(w:World)(he:Env w)(ha:a.size≤2000000)(hb:b.size≤2000000):
  Calls Tryz.prog 175 #[.string a,.string b] w fun e w'=>e=.returned (.int .i64 (zhn a b))∧Below w.heap.size w w':=by
 have HE:=hd_ he;clear he;have HC:=hd_ (fun a b X=>zhh a b X);cases hda:z2q a.data.toList 2 with
 | none =>
  have HVA:=hd_ (zhm hda);have HA:=hd_ (z92 a w HE.out ha hda);cases hdb:z2q b.data.toList 2 with
  | none =>
   have HB:=hd_ (fun X (hX:Below w.heap.size w X)=>z92 b X (HE.out.below hX) hb hdb);have HF:Hid (zhn a b=Lib.compareBytes a.data.toList b.data.toList):=hd_ (by unfold zhn;rw[hda,hdb])
   clear hda hdb;go_enter Tryz.func175,Tryz.ntmps175;go_wp2_with fail;refine HA.out.mono ?_;rintro e w1 ⟨rfl,hb1⟩;have HB1:=hd_ (HB.out w1 hb1);have H1:=hd_ hb1;clear hb1;go_wp2_with fail;refine HB1.out.mono ?_;rintro e w2 ⟨rfl,hb2⟩;have H2:=hd_ hb2;clear hb2;go_wp2_with fail;refine (HC.out a b w2).mono ?_;rintro e w3 ⟨rfl,rfl⟩;go_wp2_with fail;go_ret;exact⟨z34 HF.out.symm,z0r H1.out H2.out⟩
  | some qs =>
   have HB:=hd_ (fun X (hX:Below w.heap.size w X)=>z91 b qs X (HE.out.below hX) hb hdb);have HF:Hid (zhn a b=-1):=hd_ (by unfold zhn;rw[hda,hdb])
   clear hda hdb;go_enter Tryz.func175,Tryz.ntmps175;go_wp2_with fail;refine HA.out.mono ?_;rintro e w1 ⟨rfl,hb1⟩;have HB1:=hd_ (HB.out w1 hb1);have H1:=hd_ hb1;clear hb1;go_wp2_with fail;refine HB1.out.mono ?_;rintro e w2 ⟨rfl,rfl⟩;have H2:Hid (Below w1.heap.size w1 (w1.alloc (.cells (z6v qs).toArray 9))):=hd_ ((Below.refl _ _).alloc (Nat.le_refl _) _);generalize w1.alloc (.cells (z6v qs).toArray 9)=w2 at H2 ⊢;go_wp2_with fail;go_ret;exact⟨z34 HF.out.symm,z0r H1.out H2.out⟩
 | some ps =>
  have HA:=hd_ (z91 a ps w HE.out ha hda);have hA1:Below w.heap.size w (w.alloc (.cells (z6v ps).toArray 9)):=(Below.refl _ _).alloc (Nat.le_refl _) _;have hS1:=z8k.of_blk (z0l w (z6v ps) 9);cases hdb:z2q b.data.toList 2 with
  | none =>
   have HVB:=hd_ (zhm hdb);have HB:=hd_ (fun X (hX:Below w.heap.size w X)=>z92 b X (HE.out.below hX) hb hdb);have HF:Hid (zhn a b=1):=hd_ (by unfold zhn;rw[hda,hdb])
   clear hda hdb;go_enter Tryz.func175,Tryz.ntmps175;go_wp2_with fail;refine HA.out.mono ?_;rintro e w1 ⟨rfl,rfl⟩;have HB1:=hd_ (HB.out _ hA1);have H1:=hd_ hA1;clear hA1 hS1;generalize w.alloc (.cells (z6v ps).toArray 9)=w1 at HB1 H1 ⊢;go_wp2_with fail;refine HB1.out.mono ?_;rintro e w2 ⟨rfl,hb2⟩;have H2:=hd_ hb2;clear hb2;go_wp2_with fail;go_ret;exact⟨z34 HF.out.symm,z0r H1.out H2.out⟩
  | some qs =>
   have HB:=hd_ (fun X (hX:Below w.heap.size w X)=>z91 b qs X (HE.out.below hX) hb hdb);have HCM:=hd_ (zhg hda hdb);have hlp:ps.length≤2000001∧qs.length≤2000001:=by
    have k1:ps=z1a (a.data.toList.drop 2):=by unfold z2q at hda;split at hda;(injection hda with h;exact h.symm);cases hda
    have k2:qs=z1a (b.data.toList.drop 2):=by unfold z2q at hdb;split at hdb;(injection hdb with h;exact h.symm);cases hdb
    rw[k1,k2];exact⟨(z8x a 2 ha).1,(z8x b 2 hb).1⟩
   have HLP:=hd_ hlp;have HF:Hid (zhn a b=zh8 ps qs):=hd_ (by unfold zhn;rw[hda,hdb])
   clear hda hdb hlp;go_enter Tryz.func175,Tryz.ntmps175;go_wp2_with fail;refine HA.out.mono ?_;rintro e w1 ⟨rfl,rfl⟩;have HB1:=hd_ (HB.out _ hA1);have H1:=hd_ hA1;have HS1:=hd_ hS1;clear hA1 hS1;generalize w.alloc (.cells (z6v ps).toArray 9)=w1 at HB1 H1 HS1 ⊢;go_wp2_with fail;refine HB1.out.mono ?_;rintro e w2 ⟨rfl,rfl⟩;have hA2:Below w1.heap.size w1 (w1.alloc (.cells (z6v qs).toArray 9)):=(Below.refl _ _).alloc (Nat.le_refl _) _;have HS2:=hd_ (z8k.of_blk (z0l w1 (z6v qs) 9));have HS3:=hd_ (HS1.out.below hA2);have H2:=hd_ hA2;clear hA2;generalize w1.alloc (.cells (z6v qs).toArray 9)=w2 at HS2 HS3 H2 ⊢;have HCP:=hd_ (zhl ps qs w.heap.size w1.heap.size w2 HS3.out HS2.out HLP.out.1 HLP.out.2);go_wp2_with fail;refine HCP.out.mono ?_;rintro e w3 ⟨rfl,hb3⟩;have H3:=hd_ hb3;clear hb3;go_wp2_with fail;go_ret;exact⟨z34 HF.out.symm,z0r H1.out (z0r H2.out H3.out)⟩
theorem zhq (a b:ByteArray)(w:World)(he:Env w)(ha:a.size≤2000000)(hb:b.size≤2000000):
  Calls Tryz.prog 175 #[.string a,.string b] w (OrdPost w a b):=
 (zhp a b w he ha hb).mono fun e w' ⟨h1,h2⟩=>⟨_,h1,h2,fun h3 h4=>zho h3 h4⟩
abbrev Fl:=ByteArray×ByteArray
def Shut (b:ByteArray→Bool)(pr:List Syn)(p l:ByteArray):Prop:=∀ x∈pr,z3o x.kind=false→b x.path=false→x.dst≠z2l→x.dst=l→x.path=p
structure BkIn (hs:List Hav)(pl:List Syn)(b:ByteArray→Bool)(Q:List Fl)(p l:ByteArray)(pr:List Syn):Prop where
 sound:∀ q,b q=true→Bl hs pl q
 one:(∃ h∈hs,h.path=p∧h.loc=l)∧zem pl b p
 que:∀ q∈Q,(∃ h∈hs,h.path=q.1∧h.loc=q.2)∧zem pl b q.1
 done:∀ h∈hs,zem pl b h.path→(h.path,h.loc)∈Q∨Shut b pl h.path h.loc∨(h.path=p∧h.loc=l)
 shut:Shut b pr p l
structure BkSt (hs:List Hav)(pl:List Syn)(b:ByteArray→Bool)(Q:List Fl):Prop where
 sound:∀ q,b q=true→Bl hs pl q
 que:∀ q∈Q,(∃ h∈hs,h.path=q.1∧h.loc=q.2)∧zem pl b q.1
 done:∀ h∈hs,zem pl b h.path→(h.path,h.loc)∈Q∨Shut b pl h.path h.loc
def setB (b:ByteArray→Bool)(p:ByteArray):ByteArray→Bool:=fun q=>decide (q=p) || b q
section
variable {hs : List Hav} {pl : List Syn} {b : ByteArray → Bool} {Q : List Fl}
theorem zkb {p q:ByteArray}(h:b q=true):setB b p q=true:=by unfold setB;rw[h,Bool.or_true]
theorem zkc {p:ByteArray}:setB b p p=true:=by unfold setB;simp
theorem zkd {p q:ByteArray}(h:setB b p q=true):q=p∨b q=true:=by unfold setB at h;simpa using h
theorem zke {p q:ByteArray}(h:setB b p q=false):q≠p∧b q=false:=by
 unfold setB at h;simp only[Bool.or_eq_false_iff,decide_eq_false_iff_not] at h
 exact h
theorem zkf {p q:ByteArray}(h:zem pl b q):zem pl (setB b p) q:=by
 rcases h with h | ⟨y,h,h1 | h1⟩
 ·exact .inl h
 ·exact .inr ⟨y,h,.inl h1⟩
 ·exact .inr ⟨y,h,.inr (zkb h1)⟩
theorem zkg {p q l:ByteArray}{pr:List Syn}(h:Shut b pr q l):Shut (setB b p) pr q l:=fun x hx h1 h2=>h x hx h1 (zke h2).2
theorem bk_init (hs:List Hav)(pl:List Syn)(Q:List Fl)(hq:∀ q,q∈Q↔∃ h∈hs,(h.path,h.loc)=q∧zem pl (fun _=>false) h.path):BkSt hs pl (fun _=>false) Q:=
 ⟨(fun q h=>by cases h),(fun q hQ=>by
  obtain⟨f,h1,h2,h3⟩:=(hq q).1 hQ;subst h2;exact⟨⟨f,h1,rfl,rfl⟩,h3⟩),fun f hh hs2=>.inl ((hq _).2 ⟨f,hh,rfl,hs2⟩)⟩
theorem bk_pop {p l:ByteArray}(h:BkSt hs pl b ((p,l) :: Q)):BkIn hs pl b Q p l []:=
 ⟨h.sound,h.que _ (List.mem_cons_self ..),fun q hq=>h.que q (List.mem_cons_of_mem _ hq),(fun x hx hs2=>by
  rcases h.done x hx hs2 with h1 | h1
  ·rcases List.mem_cons.1 h1 with h1 | h1
   ·exact .inr (.inr (by injection h1 with a c;exact⟨a,c⟩))
   ·exact .inl h1
  ·exact .inr (.inl h1)),(fun x hx=>by cases hx)⟩
theorem bk_skip {p l:ByteArray}{pr:List Syn}{x:Syn}(h:BkIn hs pl b Q p l pr)(hx:x.path=p∨z3o x.kind=true∨b x.path=true):BkIn hs pl b Q p l (pr++[x]):=
 ⟨h.sound,h.one,h.que,h.done,fun y hy h1 h2 h3 h4=>by
  rcases List.mem_append.1 hy with hy | hy
  ·exact h.shut y hy h1 h2 h3 h4
  ·rw[List.mem_singleton] at hy;subst hy;rcases hx with e | e | e
   ·exact e
   ·rw[h1] at e;cases e
   ·rw[h2] at e;cases e⟩
theorem zkh {p l:ByteArray}{pr:List Syn}{x:Syn}(hsrt:z6c pl)(h1:zf0 hs)(hfrm:∀ x∈pl,x.frm=zk4 hs x.path)(h:BkIn hs pl b Q p l pr)(hx:x∈pl)(hp:x.path≠p)(hk:z3o x.kind=false)(hd:x.dst≠z2l)(hl:x.dst=l):
  BkIn hs pl (setB b x.path) (if x.frm=z2l then Q else Q++[(x.path,x.frm)]) p l (pr++[x]):=by
 have hg:z6e pl x.path=some x:=z65 hsrt hx;have hst:zem pl (setB b x.path) x.path:=.inr ⟨x,hg,.inr zkc⟩;obtain⟨⟨f,f1,f2,f3⟩,f4⟩:=h.one;refine⟨fun q hq=>?_,⟨⟨f,f1,f2,f3⟩,zkf f4⟩,fun q hq=>?_,fun y hy hs2=>?_,fun y hy e1 e2 e3 e4=>?_⟩
 ·rcases zkd hq with rfl | hq
  ·exact zen h.sound hx hk hd f1 (by rw[f3,hl]) (by rw[f2];exact fun e=>hp e.symm) (by rw[f2];exact f4)
  ·exact h.sound q hq
 ·by_cases hf:x.frm=z2l
  ·rw[if_pos hf] at hq;obtain⟨a,c⟩:=h.que q hq;exact⟨a,zkf c⟩
  ·rw[if_neg hf] at hq;rcases List.mem_append.1 hq with hq | hq
   ·obtain⟨a,c⟩:=h.que q hq;exact⟨a,zkf c⟩
   ·rw[List.mem_singleton] at hq;subst hq;refine⟨?_,hst⟩;have e:=hfrm x hx;unfold zk4 at e;cases hh:z6d hs x.path with
    | none=>rw[hh] at e;exact absurd e hf
    | some a =>
     rw[hh] at e;obtain⟨m1,m2⟩:=zk5 hh;exact⟨a,m1,m2,e.symm⟩
 ·by_cases ep:y.path=x.path
  ·-- the file of the step that was blocked just now
   have e:=hfrm x hx;unfold zk4 at e;rw[← ep,getH_of h1 hy] at e;have e':x.frm=y.loc:=e;have hf:¬ x.frm=z2l:=by rw[e'];exact h1.locNe hy
   rw[if_neg hf];exact .inl (List.mem_append.2 (.inr (by rw[List.mem_singleton,ep,e'])))
  ·have hs3:zem pl b y.path:=by
    rcases hs2 with h2 | ⟨z,h2,h3 | h3⟩
    ·exact .inl h2
    ·exact .inr ⟨z,h2,.inl h3⟩
    ·rcases zkd h3 with h3 | h3
     ·exact absurd h3 ep
     ·exact .inr ⟨z,h2,.inr h3⟩
   rcases h.done y hy hs3 with h2 | h2 | h2
   ·refine .inl ?_;split
    ·exact h2
    ·exact List.mem_append.2 (.inl h2)
   ·exact .inr (.inl (zkg h2))
   ·exact .inr (.inr h2)
 ·obtain⟨o1,o2⟩:=zke e2;rcases List.mem_append.1 hy with hy | hy
  ·exact h.shut y hy e1 o2 e3 e4
  ·rw[List.mem_singleton] at hy;subst hy;exact absurd rfl o1
theorem bk_end {p l:ByteArray}{pr:List Syn}(h1:zf0 hs)(h:BkIn hs pl b Q p l pr)(hall:∀ x∈pl,x.dst≠z2l→x.dst=l→x∈pr):BkSt hs pl b Q:=
 ⟨h.sound,h.que,fun y hy hs2=>by
  rcases h.done y hy hs2 with h2 | h2 | ⟨h2,h3⟩
  ·exact .inl h2
  ·exact .inr h2
  ·refine .inr fun x hx e1 e2 e3 e4=>?_;rw[h3] at e4;rw[h2];exact h.shut x (hall x hx e3 e4) e1 e2 e3 e4⟩
theorem bk_over (h:BkSt hs pl b []):b=blB hs pl:=
 bl_eq h.sound fun x hx h1 h2 h3 f hf h4 h5 h6=>by
  rcases h.done f hf h6 with h7 | h7
  ·cases h7
  ·exact h5 (h7 x hx h1 h2 h3 h4.symm).symm
def zki (b:ByteArray→Bool)(pl:List Syn):Nat:=(pl.filter fun x=>!z3o x.kind && !b x.path).length
theorem zkj {x:Syn}(hx:x∈pl)(hk:z3o x.kind=false)(hb:b x.path=false):zki (setB b x.path) pl+1≤zki b pl:=by
 unfold zki;induction pl with
 | nil=>cases hx
 | cons y pl ih =>
  have le:∀ l:List Syn,(l.filter fun z=>!z3o z.kind && !(setB b x.path) z.path).length≤(l.filter fun z=>!z3o z.kind && !b z.path).length:=by
   intro l;induction l with
   | nil=>exact Nat.le_refl _
   | cons z l ih =>
    rw[List.filter_cons,List.filter_cons];by_cases c:(!z3o z.kind && !(setB b x.path) z.path)=true
    ·have c2:(!z3o z.kind && !b z.path)=true:=by
      simp only[Bool.and_eq_true,Bool.not_eq_true'] at c ⊢
      exact⟨c.1,(zke c.2).2⟩
     rw[if_pos c,if_pos c2];exact Nat.succ_le_succ ih
    ·rw[if_neg c];split
     ·exact Nat.le_succ_of_le ih
     ·exact ih
  rw[List.filter_cons,List.filter_cons];by_cases e:y.path=x.path
  ·have c1:¬(!z3o y.kind && !(setB b x.path) y.path)=true:=by rw[e,zkc];simp
   rw[if_neg c1];rcases List.mem_cons.1 hx with rfl | hx
   ·have c2:(!z3o x.kind && !b x.path)=true:=by rw[hk,hb];rfl
    rw[if_pos c2];exact Nat.succ_le_succ (le pl)
   ·split
    ·exact Nat.le_succ_of_le (ih hx)
    ·exact ih hx
  ·have hx':x∈pl:=by
    rcases List.mem_cons.1 hx with rfl | h
    ·exact absurd rfl e
    ·exact h
   have same:(setB b x.path) y.path=b y.path:=by unfold setB;rw[decide_eq_false e,Bool.false_or]
   rw[same];split
   ·exact Nat.succ_le_succ (ih hx')
   ·exact ih hx'
end
def zkk (g:ByteArray→Option Value)(k:ByteArray):Value:=(g k).getD (.slice none 0 0)
def zkl (l:List Nat):List Value:=l.map fun(i:Nat)=>.int .i64 i
theorem zkm (l:List Nat)(i:Nat):zkl (l++[i])=zkl l++[.int .i64 i]:=by unfold zkl;rw[List.map_append];rfl
theorem zkn {w:World}{B:Nat}{e:TypeId}{size n:Nat}{v:Value}{xs:List Value}(h:w.ownsRow B e size v n xs){x:Nat}(hx:v.ownBlock=some x){es:Array MapEntry}{c:Nat}(hm:w.heap[x]? = some (.map es c)):False:=by
 rcases h.2 with⟨rfl,_⟩ | ⟨g,cap,cur,rfl,_,hg,_⟩
 ·cases hx
 ·injection hx with hx
  subst hx;have hx':w.heap[g]? = some (.map es c):=hm;rw[hg] at hx';cases hx'
theorem zko {κ α:Type}[BEq κ]{kv:κ→Value}{enc:α→Value}{w:World}{b:Nat}{f:κ→Option α}(h:z2f kv enc w b f):∃ es c,w.heap[b]? = some (.map es c):=by
 obtain⟨m,⟨es,c,hm,_⟩,_⟩:=h;exact⟨es,c,hm⟩
structure ComG (w:World)(B U b:Nat)(f:ByteArray→List Nat)(g:ByteArray→Option Value):Prop where
 map:z2f Value.string id w b g
 row:∀ k,w.ownsRow B 3 1 (zkk g k) (f k).length (zkl (f k))
 apart:∀ k k' x,k≠k'→(zkk g k).ownBlock=some x→(zkk g k').ownBlock≠some x
 up:∀ k x,(zkk g k).ownBlock=some x→x<U
 bu:b<U
def zkp (w:World)(B U b:Nat)(f:ByteArray→List Nat):Prop:=∃ g,ComG w B U b f g
theorem zkp.new (w:World)(B:Nat):zkp (w.alloc (.map #[] 0)) B (w.heap.size+1) w.heap.size (fun _=>[]):=
 ⟨fun _=>none,z2f.new Value.string id w,fun _=>World.ownsRow_nil _ _ _ _,(fun _ _ _ _ h=>by cases h),(fun _ _ h=>by cases h),Nat.lt_succ_self _⟩
theorem zkp.keep {w w':World}{B U b:Nat}{f:ByteArray→List Nat}(h:zkp w B U b f)(hk:∀ x,x<U→(B≤x∨x=b)→w'.heap[x]? = w.heap[x]?):zkp w' B U b f:=by
 obtain⟨g,h1,h2,h3,h4,h5⟩:=h;refine⟨g,h1.keep (hk b h5 (.inr rfl)),fun k=>?_,h3,h4,h5⟩;have hr:=h2 k;refine⟨hr.1,?_⟩;rcases hr.2 with e | ⟨g1,cap,cur,e1,e2,e3,e4⟩
 ·exact .inl e
 ·exact .inr ⟨g1,cap,cur,e1,e2,(hk g1 (h4 k g1 (by rw[e1];rfl)) (.inl e2)).trans e3,e4⟩
theorem zkp.upTo {w:World}{B U U' b:Nat}{f:ByteArray→List Nat}(h:zkp w B U b f)(hU:U≤U'):zkp w B U' b f:=by
 obtain⟨g,h1,h2,h3,h4,h5⟩:=h;exact⟨g,h1,h2,h3,fun k x e=>Nat.lt_of_lt_of_le (h4 k x e) hU,Nat.lt_of_lt_of_le h5 hU⟩
theorem zkp.look {w:World}{B U b:Nat}{f:ByteArray→List Nat}(h:zkp w B U b f)(k:ByteArray):
  ∃ A c,(∀ W:World,W.heap[b]? = w.heap[b]?→(Instr.lookup 123 (.map (some b)) (.string k) false).run Tryz.prog W=.ok (.slice A (f k).length c) W)∧w.ownsRow B 3 1 (.slice A (f k).length c) (f k).length (zkl (f k)) ∧
   (∀ x,(Value.slice A (f k).length c).ownBlock=some x→x<U∧B≤x) ∧
   ∀(W:World) (A':Option Addr) (c' n i U':Nat),w.grownBy W (Value.slice A (f k).length c).ownBlock→n=(f k).length+1→W.ownsRow B 3 1 (.slice A' n c') n (zkl (f k)++[.int .i64 i])→U≤w.heap.size→U≤U'→W.heap.size≤U' →
    ((Value.slice A' n c').ownBlock=(Value.slice A (f k).length c).ownBlock∨∃ x,(Value.slice A' n c').ownBlock=some x∧w.heap.size≤x) →
    ∃ W2,(Instr.mapUpdate 123 (.map (some b)) (.string k) (.slice A' n c')).run Tryz.prog W=.ok () W2∧zkp W2 B U' b (fun x=>if x=k then f k++[i] else f x)∧W.grownBy W2 (some b)∧W2.heap.size=W.heap.size:=by
 obtain⟨g,h1,h2,h3,h4,h5⟩:=h;have hv:z2h id (.slice none 0 0) false (g k)=zkk g k:=by unfold z2h zkk;cases g k <;> rfl
 have hlk:∀ W:World,W.heap[b]? = w.heap[b]?→(Instr.lookup 123 (.map (some b)) (.string k) false).run Tryz.prog W=.ok (zkk g k) W:=fun W hW=>by
  rw[← hv];exact z2f.lookup (w:=W) (h1.keep hW) (z2d Tryz.underlying9) Tryz.underlying123 (z:=.slice none 0 0) (by rfl) k false
 obtain⟨A,c,hsl⟩:=z0o (h2 k);have hrow:=h2 k;have hup:=h4 k;rw[hsl] at hrow hup;simp only[hsl] at hlk
 refine⟨A,c,hlk,hrow,fun x hx=>⟨hup x hx,(hrow.lt x hx).1⟩,?_⟩;intro W A' c' n i U' hg hn hown hUs hU hW hloc;subst hn;have hbs:b<w.heap.size:=h1.lt;have hbrow:∀ k x,(zkk g k).ownBlock=some x→x≠b:=by
  intro k x hx e;subst e;obtain⟨es,cc,hm⟩:=zko h1;exact zkn (h2 k) hx hm
 have h1W:z2f Value.string id W b g:=h1.grown hg (by
  intro e;have:=hbrow k b (by rw[hsl];exact e.symm)
  exact this rfl)
 obtain⟨W2,hu,hM,hgr,hsz⟩:=z2f.update (w:=W) h1W (z2d Tryz.underlying9) Tryz.underlying123 k (.slice A' ((f k).length+1) c');refine⟨W2,hu,⟨upd g k (.slice A' ((f k).length+1) c'),hM,?_,?_,?_,Nat.lt_of_lt_of_le h5 hU⟩,hgr,hsz⟩
 ·have hrk:zkk (upd g k (.slice A' ((f k).length+1) c')) k=.slice A' ((f k).length+1) c':=by unfold zkk upd;rw[if_pos rfl];rfl
  intro k';by_cases e:k'=k
  ·subst e;rw[hrk,if_pos rfl];have hl:(f k'++[i]).length=(f k').length+1:=by simp
   rw[hl,zkm];refine hown.kept hgr ?_;obtain⟨es,cc,hm⟩:=zko h1W;by_cases hb:(Value.slice A' ((f k').length+1) c').ownBlock=some b
   ·exact absurd hm (fun hm=>zkn hown hb hm)
   ·exact .inr hb
  ·have hrk':zkk (upd g k (.slice A' ((f k).length+1) c')) k'=zkk g k':=by unfold zkk upd;rw[if_neg e]
   rw[hrk',if_neg e];refine ((h2 k').kept hg ?_).kept hgr ?_
   ·cases hb:(zkk g k').ownBlock with
    | none=>exact .inl rfl
    | some x =>
     refine .inr fun e2=>?_;exact h3 k' k x e hb (by rw[hsl];exact e2.symm)
   ·cases hb:(zkk g k').ownBlock with
    | none=>exact .inl rfl
    | some x=>exact .inr fun e2=>hbrow k' x hb (by injection e2)
 ·intro k1 k2 x hne hx hx2;by_cases e1:k1=k
  ·subst e1;have e2:¬ k2=k1:=fun e=>hne e.symm;have hrk:zkk (upd g k1 (.slice A' ((f k1).length+1) c')) k1=.slice A' ((f k1).length+1) c':=by unfold zkk upd;rw[if_pos rfl];rfl
   have hrk':zkk (upd g k1 (.slice A' ((f k1).length+1) c')) k2=zkk g k2:=by unfold zkk upd;rw[if_neg e2]
   rw[hrk] at hx;rw[hrk'] at hx2;rcases hloc with h | ⟨y,h,hy⟩
   ·rw[h,← hsl] at hx;exact h3 k1 k2 x hne hx hx2
   ·rw[h] at hx;injection hx with hx
    have:=((h2 k2).lt x hx2).2;omega
  ·have hrk':zkk (upd g k (.slice A' ((f k).length+1) c')) k1=zkk g k1:=by unfold zkk upd;rw[if_neg e1]
   rw[hrk'] at hx;by_cases e2:k2=k
   ·subst e2;have hrk:zkk (upd g k2 (.slice A' ((f k2).length+1) c')) k2=.slice A' ((f k2).length+1) c':=by unfold zkk upd;rw[if_pos rfl];rfl
    rw[hrk] at hx2;rcases hloc with h | ⟨y,h,hy⟩
    ·rw[h,← hsl] at hx2;exact h3 k1 k2 x hne hx hx2
    ·rw[h] at hx2;injection hx2 with hx2
     have:=((h2 k1).lt x hx).2;omega
   ·have hrk2:zkk (upd g k (.slice A' ((f k).length+1) c')) k2=zkk g k2:=by unfold zkk upd;rw[if_neg e2]
    rw[hrk2] at hx2;exact h3 k1 k2 x hne hx hx2
 ·intro k' x hx;by_cases e:k'=k
  ·subst e;have hrk:zkk (upd g k' (.slice A' ((f k').length+1) c')) k'=.slice A' ((f k').length+1) c':=by unfold zkk upd;rw[if_pos rfl];rfl
   rw[hrk] at hx;have:=(hown.lt x hx).2;omega
  ·have hrk':zkk (upd g k (.slice A' ((f k).length+1) c')) k'=zkk g k':=by unfold zkk upd;rw[if_neg e]
   rw[hrk'] at hx;exact Nat.lt_of_lt_of_le (h4 k' x hx) hU
def zkq (pl:List Syn)(k:Nat)(l:ByteArray):List Nat:=(List.range k).filter fun i=>decide (∃ x,pl[i]? = some x∧x.dst=l∧x.dst≠z2l)
def putF (f:ByteArray→List Nat)(l:ByteArray)(i:Nat):ByteArray→List Nat:=fun x=>if x=l then f l++[i] else f x
theorem comF_no {pl:List Syn}{k:Nat}(hk:k<pl.length)(h:pl[k].dst=z2l):zkq pl (k+1)=zkq pl k:=by
 funext l
 unfold zkq;rw[List.range_succ,List.filter_append];rw[show ([k].filter fun i=>decide (∃ x,pl[i]? = some x∧x.dst=l∧x.dst≠z2l))=[] from ?_,List.append_nil];rw[List.filter_cons,if_neg,List.filter_nil];rw[decide_eq_true_iff];rintro⟨x,hx,-,hn⟩;rw[List.getElem?_eq_getElem hk] at hx;injection hx with hx
 subst hx;exact hn h
theorem zkr {pl:List Syn}{k:Nat}(hk:k<pl.length)(h:pl[k].dst≠z2l):zkq pl (k+1)=putF (zkq pl k) pl[k].dst k:=by
 funext l
 unfold putF;have hu:zkq pl (k+1) l=zkq pl k l++([k].filter fun i=>decide (∃ x,pl[i]? = some x∧x.dst=l∧x.dst≠z2l)):=by
  unfold zkq;rw[List.range_succ,List.filter_append]
 rw[hu,List.filter_cons,List.filter_nil];by_cases e:l=pl[k].dst
 ·subst e;rw[if_pos rfl,if_pos];rw[decide_eq_true_iff];exact⟨pl[k],List.getElem?_eq_getElem hk,rfl,h⟩
 ·rw[if_neg e,if_neg,List.append_nil];rw[decide_eq_true_iff];rintro⟨x,hx,h1,-⟩;rw[List.getElem?_eq_getElem hk] at hx;injection hx with hx
  subst hx;exact e h1.symm
theorem comF_lt {pl:List Syn}{k:Nat}{l:ByteArray}{i:Nat}(h:i∈zkq pl k l):i<pl.length∧∃ x,pl[i]? = some x∧x.dst=l∧x.dst≠z2l:=by
 unfold zkq at h;obtain⟨h1,h2⟩:=List.mem_filter.1 h;rw[decide_eq_true_iff] at h2;obtain⟨x,hx,h3⟩:=h2;exact⟨(List.getElem?_eq_some_iff.1 hx).1,x,hx,h3⟩
theorem zks (pl:List Syn)(k:Nat)(l:ByteArray):(zkq pl k l).length≤k:=by
 unfold zkq;exact Nat.le_trans (List.length_filter_le _ _) (by rw[List.length_range];exact Nat.le_refl _)
theorem zkt {pl:List Syn}{x:Syn}(hx:x∈pl)(hd:x.dst≠z2l):∃ i,i∈zkq pl pl.length x.dst∧pl[i]? = some x:=by
 obtain⟨i,hi,rfl⟩:=List.getElem_of_mem hx;refine⟨i,?_,List.getElem?_eq_getElem hi⟩;unfold zkq;refine List.mem_filter.2 ⟨List.mem_range.2 hi,?_⟩;rw[decide_eq_true_iff];exact⟨pl[i],List.getElem?_eq_getElem hi,rfl,hd⟩
def stF (pl:List Syn):Nat→ByteArray→Option Nat
 | 0=>fun _=>none
 | k+1=>match pl[k]? with
  | some x=>upd (stF pl k) x.path k
  | none=>stF pl k
theorem zku {pl:List Syn}{k:Nat}(hk:k<pl.length):stF pl (k+1)=upd (stF pl k) pl[k].path k:=by
 show (match pl[k]? with | some x=>upd (stF pl k) x.path k | none=>stF pl k)=_
 rw[List.getElem?_eq_getElem hk]
theorem zkv {pl:List Syn}{k i:Nat}{p:ByteArray}(hk:k≤pl.length)(h:stF pl k p=some i):i<k∧∃ hi:i<pl.length,pl[i].path=p:=by
 induction k with
 | zero=>cases h
 | succ k ih =>
  rw[zku hk] at h;unfold upd at h;split at h
  ·rename_i e
   injection h with h
   subst h;exact⟨by omega,hk,e.symm⟩
  ·obtain⟨h1,h2⟩:=ih (by omega) h
   exact⟨by omega,h2⟩
theorem zkw {pl:List Syn}{k:Nat}{p:ByteArray}(hk:k≤pl.length)(h:stF pl k p=none):∀ i (hi:i<pl.length),i<k→pl[i].path≠p:=by
 induction k with
 | zero=>intro i _ h;omega
 | succ k ih =>
  intro i hi hik e;rw[zku hk] at h;unfold upd at h;split at h
  ·cases h
  ·rename_i e2
   by_cases e3:i=k
   ·subst e3;exact e2 e.symm
   ·exact ih (by omega) h i hi (by omega) e
theorem stF_get {pl:List Syn}(hs:z6c pl)(p:ByteArray):z6e pl p=(stF pl pl.length p).bind fun i=>pl[i]?:=by
 cases h:stF pl pl.length p with
 | none =>
  refine z62.2 fun a ha e=>?_;obtain⟨i,hi,rfl⟩:=List.getElem_of_mem ha;exact zkw (Nat.le_refl _) h i hi hi e
 | some i =>
  obtain⟨-,hi,e⟩:=zkv (Nat.le_refl _) h;show _=pl[i]?
  rw[List.getElem?_eq_getElem hi,← e];exact z65 hs (List.getElem_mem hi)
theorem zkx {pl:List Syn}(hs:z6c pl)(b:ByteArray→Bool){k:Nat}(hk:k<pl.length)(hk2:k<(zeg b pl).length):(zeg b pl).set k (zjw 5 (zeg b pl)[k])=zeg (setB b pl[k].path) pl:=by
 refine List.ext_getElem (by unfold zeg;simp) fun j h1 h2=>?_
 have hj:j<pl.length:=by unfold zeg at h2;simpa using h2
 have e1:∀(b:ByteArray→Bool) (h:j<(zeg b pl).length),(zeg b pl)[j]=zef b pl[j]:=fun b h=>by
  show (pl.map (zef b))[j]'(by simpa [zeg] using h)=_
  rw[List.getElem_map]
 rw[List.getElem_set,e1 (setB b pl[k].path) h2];by_cases e:k=j
 ·subst e;have hb:setB b pl[k].path pl[k].path=true:=zkc;have e2:=e1 b hk2;have e3:zef (setB b pl[k].path) pl[k]=zjw 5 pl[k]:=by unfold zef;rw[if_pos hb];rfl
  have e4:∀ x:Syn,zjw 5 (zef b x)=zjw 5 x:=fun x=>by unfold zef;split <;> rfl
  rw[if_pos rfl,e3];exact (congrArg (zjw 5) e2).trans (e4 _)
 ·rw[if_neg e,e1];have hp:pl[j].path≠pl[k].path:=fun ep=>by
   have hh:=List.pairwise_iff_getElem.1 hs;rcases Nat.lt_or_gt_of_ne e with h | h
   ·exact z5z (hh k j hk hj h) ep.symm
   ·exact z5z (hh j k hj hk h) ep
  unfold zef;have:setB b pl[k].path pl[j].path=b pl[j].path:=by unfold setB;rw[decide_eq_false hp,Bool.false_or]
  rw[this]
theorem zma {x y:ByteArray}(hy:z79 y=false):z9s x y=decide (x=y):=by
 unfold z9s;rw[hy];by_cases h:x=y
 ·rw[if_pos h,decide_eq_true h]
 ·rw[if_neg h,decide_eq_false h];rfl
theorem zmb {x y:ByteArray}(hx:z79 x=true)(hy:z79 y=true):z9s x y=Lib.hasSuffix (z80 x).data.toList (z80 y).data.toList:=by
 unfold z9s;rw[hx,hy];by_cases h:x=y
 ·rw[if_pos h,h];symm
  unfold Lib.hasSuffix;exact List.isSuffixOf_iff_suffix.2 (List.suffix_refl _)
 ·rw[if_neg h];rfl
theorem zmc {x y:ByteArray}(hx:z79 x=false)(hy:z79 y=true):z9s x y=z82 y x:=by
 unfold z9s;rw[hx,hy];rw[if_neg (fun h=>by rw[h,hy] at hx;cases hx)];rfl
theorem zmd {x:ByteArray}(h:z7b x≠0)(hx:z79 x=false):z0v x=true:=by
 unfold z7b at h;rw[hx] at h;cases hc:z0v x with
 | true=>rfl
 | false=>rw[hc] at h;exact absurd rfl h
theorem zme (x y:ByteArray)(w:World)(hx:z7b x≠0)(hy:z7b y≠0)(zx:x.size≤1000000)(zy:y.size≤1000000):
  Calls Tryz.prog 223 #[.string x,.string y] w fun e w'=>e=.returned (.bool (z9s x y))∧Below w.heap.size w w':=by
 have HX:=hd_ (fun X=>z9n x X (by unfold maxLen;omega))
 have HY:=hd_ (fun X=>z9n y X (by unfold maxLen;omega))
 have HC:=hd_ (fun X=>z9r y x X (by unfold maxLen;omega) (by unfold maxLen;omega))
 have HS:=hd_ (fun X=>z9p (z80 x) (z80 y) X _ (by unfold z80;rw[ByteArray.size_extract];omega) rfl)
 unfold z9k at HX HY;rw[z9b hx] at HX;rw[z9b hy] at HY;cases hsy:z79 y with
 | false =>
  have HR:=hd_ (zma (x:=x) hsy);have HE:=hd_ (z84 x y);rw[hsy] at HY;clear hsy HC HS;generalize z79 x=sx at HX;generalize (if sx=true then z80 x else z2l)=ux at HX;go_enter Tryz.func223,Tryz.ntmps223;go_wp2_with fail;refine (HX.out _).mono ?_;rintro e w' ⟨rfl,rfl⟩;go_wp2_with fail;refine (HY.out _).mono ?_;rintro e w' ⟨rfl,rfl⟩;go_wp2_with fail;go_ret;exact⟨by rw[HR.out,← HE.out];rfl,Below.refl _ _⟩
 | true =>
  cases hsx:z79 x with
  | true =>
   have HR:=hd_ (zmb hsx hsy);rw[hsy] at HY;rw[hsx] at HX;rw[if_pos rfl] at HX HY;clear hsy hsx HC;generalize z80 x=ux at HX HS HR;generalize z80 y=uy at HY HS HR;generalize Lib.hasSuffix ux.data.toList uy.data.toList=b at HS HR;go_enter Tryz.func223,Tryz.ntmps223;go_wp2_with fail;refine (HX.out _).mono ?_;rintro e w' ⟨rfl,rfl⟩;go_wp2_with fail;refine (HY.out _).mono ?_;rintro e w' ⟨rfl,rfl⟩;go_wp2_with fail;refine (HS.out _).mono ?_;rintro e w' ⟨rfl,rfl⟩;go_wp2_with fail;go_ret;exact⟨by rw[HR.out];rfl,Below.refl _ _⟩
  | false =>
   have HR:=hd_ (zmc hsx hsy);rw[z9g hy (zmd hx hsx)] at HC;rw[hsy] at HY;rw[hsx] at HX;clear hsy hsx HS;rw[if_pos rfl] at HY;generalize z80 y=uy at HY;generalize z82 y x=b at HC HR;generalize z97 y x=c at HC;go_enter Tryz.func223,Tryz.ntmps223;go_wp2_with fail;refine (HX.out _).mono ?_;rintro e w' ⟨rfl,rfl⟩;go_wp2_with fail;refine (HY.out _).mono ?_;rintro e w' ⟨rfl,rfl⟩;go_wp2_with fail;refine (HC.out _).mono ?_;rintro e w' ⟨rfl,rfl⟩;go_wp2_with fail;go_ret;exact⟨by rw[HR.out];rfl,Below.refl _ _⟩
structure zmr (D:List Rev)(n:Nat):Prop where
 len:D.length≤n
 six:∀ r∈D,r.path∈zff
 num:∀ p (i:Nat) (h:i<(zgp D p).length),(zgp D p)[i].num=(i:Int)+1
theorem dp_nil:zmr [] 0:=⟨Nat.le_refl _,(fun r h=>by cases h),fun p i h=>by simp [zgp] at h⟩
theorem zms {D:List Rev}{n:Nat}(h:zmr D n)(p:ByteArray):(zec (zgs D p)).num=((zgp D p).length:Int):=by
 unfold zgs zec;rcases Nat.eq_zero_or_pos (zgp D p).length with h0 | h0
 ·rw[List.eq_nil_of_length_eq_zero h0];rfl
 ·rw[List.getLast?_eq_getElem?,List.getElem?_eq_getElem (by omega),Option.getD_some,h.num p _ (by omega)]
  omega
theorem zmt {D:List Rev}{n:Nat}(h:zmr D n):∀ r∈D,1≤r.num:=fun r hr=>by
 obtain⟨i,hi,e⟩:=List.getElem_of_mem (zgq.2 ⟨hr,rfl⟩:r∈zgp D r.path);have:=h.num r.path i hi;rw[e] at this;omega
theorem zmu {p:ByteArray}:∀ {L:List Rev},(L.map (·.path)).Nodup→zgp L p=[]∨∃ r∈L,r.path=p∧zgp L p=[r]
 | [],_=>.inl rfl
 | r :: L,h=>by
  rw[List.map_cons,List.nodup_cons] at h;have e:zgp (r :: L) p=(if r.path=p then [r] else [])++zgp L p:=by
   unfold zgp;by_cases hp:r.path=p
   ·rw[if_pos hp,List.filter_cons_of_pos (by simpa using hp)];rfl
   ·rw[if_neg hp,List.filter_cons_of_neg (by simpa using hp)];rfl
  rw[e];by_cases hp:r.path=p
  ·rw[if_pos hp];have:zgp L p=[]:=by
    cases hl:zgp L p with
    | nil=>rfl
    | cons v l =>
     have hv:v∈zgp L p:=by rw[hl];exact List.mem_cons_self ..
     obtain⟨h1,h2⟩:=zgq.1 hv;exact absurd (List.mem_map.2 ⟨v,h1,h2.trans hp.symm⟩) h.1
   rw[this];exact .inr ⟨r,List.mem_cons_self ..,hp,rfl⟩
  ·rw[if_neg hp];rcases zmu (p:=p) h.2 with h1 | ⟨v,h1,h2,h3⟩
   ·exact .inl h1
   ·exact .inr ⟨v,List.mem_cons_of_mem _ h1,h2,h3⟩
theorem dp_app {D:List Rev}{n:Nat}{es:List Edt}(h:zmr D n)(m:Int)(h6:∀ x∈es,x.path∈zff)(hn:(es.map (·.path)).Nodup)(hb:∀ x∈es,x.base=(zec (zgs D x.path)).num):zmr (D++es.map (zhy m)) (n+es.length):=by
 refine⟨by rw[List.length_append,List.length_map];have:=h.len;omega,fun r hr=>?_,fun p i hi=>?_⟩
 ·rcases List.mem_append.1 hr with hr | hr
  ·exact h.six r hr
  ·obtain⟨x,hx,rfl⟩:=List.mem_map.1 hr;exact h6 x hx
 ·have hl:zgp (es.map (zhy m)) p=[]∨∃ r∈es.map (zhy m),r.path=p∧zgp (es.map (zhy m)) p=[r]:=zmu (by rw[List.map_map];exact hn)
  have e:=zgr D (es.map (zhy m)) p;rcases hl with hl | ⟨r,hr,hp,hl⟩
  ·rw[hl,List.append_nil] at e;have hi2:i<(zgp D p).length:=by rw[← e];exact hi
   have:=h.num p i hi2;rw[← this];congr 1
   simp only[e]
  ·rw[hl] at e;have hi2:i<(zgp D p).length+1:=by have:=congrArg List.length e;rw[List.length_append,List.length_singleton] at this;omega
   by_cases hlt:i<(zgp D p).length
   ·rw[← h.num p i hlt];congr 1
    simp only[e]
    rw[List.getElem_append_left]
   ·have hie:i=(zgp D p).length:=by omega
    obtain⟨x,hx,rfl⟩:=List.mem_map.1 hr;have hnum:(zhy m x).num=(i:Int)+1:=by
     show x.base+1=_
     have hp':x.path=p:=hp;rw[hb x hx,hp',zms h,hie]
    rw[← hnum];congr 1
    simp only[e]
    rw[List.getElem_append_right (by omega)]
    simp [hie]
theorem dp_at {D:List Rev}{n:Nat}(h:zmr D n)(p:ByteArray)(m:Int):zec (z30 D p (fun v=>decide (v.chg≤m)))=rAt D p m∧(z30 D p (fun v=>decide (v.chg≤m))).isSome=decide (0<(rAt D p m).num):=by
 rw[zh3,zh2];refine zh4 m p (zgp D p) none ?_ (fun v hv=>⟨?_,(zgq.1 hv).2⟩) (fun b hb=>by cases hb)
 ·rw[List.pairwise_iff_getElem];intro i j hi hj hij;rw[h.num p i hi,h.num p j hj];omega
 ·have:=zmt h v (zgq.1 hv).1;omega
end Go.Proofs.YtegeboijhifmcaaGreatDoor
