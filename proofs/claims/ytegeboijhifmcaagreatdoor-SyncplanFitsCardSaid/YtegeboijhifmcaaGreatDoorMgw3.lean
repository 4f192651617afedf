/- Small laws on memory. -/
import Derived.Test.YtegeboijhifmcaaGreatDoorMgw0
import Derived.Test.YtegeboijhifmcaaGreatDoorMgw2
import Derived.Test.YtegeboijhifmcaaGreatDoorShelf
import Derived.Test.YtegeboijhifmcaaGreatDoorCards
import Derived.Test.YtegeboijhifmcaaGreatDoorTie
import Derived.Sort.LotA
import Derived.Shelf.SlSortCmp.KitK
import Derived.Lib.QuietBelow
import Derived.Deep.DeepCutAuto
import Derived.Deep.RegionLaw
import Derived.IntWalk
import Derived.ProofKit
import Derived.OpenShut
import Derived.Deep.DeepHandedRow
import Derived.Lib.LaidTab
import Derived.Lib.SmallJoins
namespace Go.Proofs.YtegeboijhifmcaaGreatDoor
set_option linter.unusedVariables false
set_option linter.unusedSimpArgs false
set_option maxHeartbeats 4000000
set_option maxRecDepth 100000
open Go.RowKit
theorem z0n {w w':World}{B:Nat}{e:TypeId}{k:Nat}{v:Value}{n:Nat}{xs:List Value}(h:w.ownsRow B e k v n xs)(hb:Below w.heap.size w w'):w'.ownsRow B e k v n xs:=by
 refine⟨h.1,?_⟩;rcases h.2 with⟨e1,e2⟩ | ⟨g,cap,cur,e1,h1,hg,rest⟩
 ·exact .inl ⟨e1,e2⟩
 ·exact .inr ⟨g,cap,cur,e1,h1,(hb.block g (Array.getElem?_eq_some_iff.1 hg).1).trans hg,rest⟩
theorem z0o {w:World}{B:Nat}{e:TypeId}{k:Nat}{v:Value}{n:Nat}{xs:List Value}(h:w.ownsRow B e k v n xs):∃ A c,v=.slice A n c:=by
 rcases h.2 with⟨e1,e2⟩ | ⟨g,cap,cur,e1,_⟩
 ·exact⟨none,0,by rw[e1,e2]⟩
 ·exact⟨_,cap,e1⟩
theorem z0p {B:Nat}{a w:World}(h:Below B a w)(n:Nat):Below B a (w.drewN n):=⟨h.os,h.tape,h.output,h.size,h.block⟩
theorem z0q {B:Nat}{a w w':World}(h:Below B a w)(hB:B≤w.heap.size)(h2:Below w.heap.size w w'):Below B a w':=h.trans (h2.mono hB)
theorem z0r {w w1 w2:World}(h1:Below w.heap.size w w1)(h2:Below w1.heap.size w1 w2):Below w.heap.size w w2:=h1.trans (h2.mono h1.size)
theorem box4 {w:World}{g:Nat}{e:TypeId}{a b c d:Value}(h:Blk w g e [a,b,c,d]):
  w.cell? ⟨g,0,none⟩=some a∧w.cell? ⟨g,1,none⟩=some b∧w.cell? ⟨g,2,none⟩=some c∧w.cell? ⟨g,3,none⟩=some d ∧
  w.frozen? ⟨g,0,none⟩=false∧w.frozen? ⟨g,1,none⟩=false∧w.frozen? ⟨g,2,none⟩=false∧w.frozen? ⟨g,3,none⟩=false:=
 ⟨h.cell 0,h.cell 1,h.cell 2,h.cell 3,h.frozen 0,h.frozen 1,h.frozen 2,h.frozen 3⟩
theorem z0s {w:World}{B:Nat}{e:TypeId}{k:Nat}{v:Value}{n:Nat}{xs:List Value}(h:w.ownsRow B e k v n xs)(hn:0<n):∃ g c,v=.slice (some ⟨g,0,none⟩) n c:=by
 rcases h.2 with⟨e1,e2⟩ | ⟨g,cap,cur,e1,_⟩
 ·omega
 ·exact⟨_,cap,e1⟩
theorem z4p {w:World}{base base':Nat}{e:TypeId}{size n:Nat}{v:Value}{xs:List Value}(h:w.ownsRow base e size v n xs)(hb:base'≤base):w.ownsRow base' e size v n xs:=by
 obtain⟨h1,h2 | ⟨g,cap,cur,e1,h3,h4⟩⟩:=h
 ·exact⟨h1,.inl h2⟩
 ·exact⟨h1,.inr ⟨g,cap,cur,e1,Nat.le_trans hb h3,h4⟩⟩
theorem z4q {w w':World}{base:Nat}{e:TypeId}{size n:Nat}{v:Value}{xs:List Value}{row:Option Nat}(h:w.ownsRow base e size v n xs)(hg:w.grownBy w' row)(hne:∀ x,v.ownBlock=some x→row≠some x):w'.ownsRow base e size v n xs:=by
 obtain⟨h1,h2 | ⟨g,cap,cur,e1,h3,h4,h5⟩⟩:=h
 ·exact⟨h1,.inl h2⟩
 ·exact⟨h1,.inr ⟨g,cap,cur,e1,h3,by rw[hg.block g (Array.getElem?_eq_some_iff.1 h4).1 (fun e=>hne g (by rw[e1];rfl) e.symm)];exact h4,h5⟩⟩
theorem z4r {w:World}{base:Nat}{e:TypeId}{size n:Nat}{v:Value}{xs:List Value}(h:w.ownsRow base e size v n xs){p:Addr}(hne:v.ownBlock≠some p.block)(u:Value):(w.setCell p u).ownsRow base e size v n xs:=by
 obtain⟨h1,h2 | ⟨g,cap,cur,e1,h3,h4,h5⟩⟩:=h
 ·exact⟨h1,.inl h2⟩
 ·exact⟨h1,.inr ⟨g,cap,cur,e1,h3,by rw[Below.heap_setCell w p u g (fun e=>hne (by rw[e1,← e];rfl))];exact h4,h5⟩⟩
open Go.RowKit Go.Lib
open Go.Sort hiding Below
section
variable {P : Program} {α : Type} [Inhabited α] {enc : α → List Value} {k : Nat} {e : TypeId} {w0 W W' : World} {blk off C : Nat} {d : Array α}
structure SB (enc:α→List Value)(k:Nat)(e:TypeId)(w0:World)(blk off C:Nat)(d:Array α)(W:World):Prop where
 hold:HoldsK enc k W blk off d
 own:∃ cur:Array Value,W.heap[blk]? = some (.cells cur e (0,0))∧cur.size=C
 gr:w0.grownBy W (some blk)
theorem SB.lt (h:SB enc k e w0 blk off C d W):blk<W.heap.size:=by
 obtain⟨cur,h1,-⟩:=h.own;exact (Array.getElem?_eq_some_iff.1 h1).1
theorem SB.below (h:SB enc k e w0 blk off C d W)(hb:Go.RowKit.Below W.heap.size W W'):SB enc k e w0 blk off C d W':=by
 have hl:=h.lt;refine⟨fun j hj=>?_,?_,?_⟩
 ·obtain⟨h1,h2⟩:=h.hold j hj;exact⟨(hb.cell (p:=⟨blk,off+j,none⟩) hl).trans h1,(hb.frozen (p:=⟨blk,off+j,none⟩) hl).trans h2⟩
 ·rw[hb.block blk hl];exact h.own
 ·exact⟨hb.os.trans h.gr.os,hb.tape.trans h.gr.tape,hb.output.trans h.gr.output,Nat.le_trans h.gr.size hb.size,fun j hj hne=>(hb.block j (Nat.lt_of_lt_of_le hj h.gr.size)).trans (h.gr.block j hj hne)⟩
theorem SB.drew (h:SB enc k e w0 blk off C d W):SB enc k e w0 blk off C d W.drew:=h.below (Below.refl _ _).drew
end
structure Pat where
 parts:List ByteArray
 rest:Bool
def z79 (s:ByteArray):Bool:=Lib.hasPrefix s.data.toList [42]
def z7a (s:ByteArray):Bool:=(s.data.toList.drop 1).all fun c=>z0t c.toNat
def z7b (s:ByteArray):Int:=if z0v s then 1 else if z79 s then (if z7a s then 2 else 0) else 0
def z7c (j:Nat)(x:ByteArray):Bool:=decide (z7b x≠0) && !(decide (j=0) && decide (z7b x=2))
def z7d (l:List ByteArray):Bool:=(List.range l.length).all fun j=>z7c j ((l[j]?).getD z2l)
def z7e (p:Pat):Int:=if p.parts.length=0∨(p.parts.length=1∧p.rest=false) then 30 else if z7d p.parts=false then 30 else if 12<p.parts.length then 31 else 0
theorem z7f {l:List ByteArray}{j:Nat}(h:j<l.length)(hf:z7c j l[j]=false):z7d l=false:=by
 unfold z7d;rw[List.all_eq_false];exact⟨j,List.mem_range.2 h,by rw[List.getElem?_eq_getElem h];simpa using hf⟩
theorem z7g {l:List ByteArray}(h:∀ j (hj:j<l.length),z7c j l[j]=true):z7d l=true:=by
 unfold z7d;rw[List.all_eq_true];intro j hj;rw[List.mem_range] at hj;rw[List.getElem?_eq_getElem hj];exact h j hj
theorem z7h {s:ByteArray}{k:Nat}(h:k<s.size)(h1:1≤k)(hb:z0t s[k].toNat=false):z7a s=false:=by
 unfold z7a;rw[List.all_eq_false];have hl:k<s.data.toList.length:=h;refine⟨s.data.toList[k],?_,?_⟩
 ·refine List.mem_iff_getElem.2 ⟨k - 1,by rw[List.length_drop];omega,?_⟩
  rw[List.getElem_drop];congr 1;omega
 ·have e:s.data.toList[k]=s[k]:=by rw[Array.getElem_toList];rfl
  rw[e,hb];simp
theorem z7i {s:ByteArray}(h:∀ k (hk:k<s.size),1≤k→z0t s[k].toNat=true):z7a s=true:=by
 unfold z7a;rw[List.all_eq_true];intro c hc;obtain⟨i,hi,rfl⟩:=List.mem_iff_getElem.1 hc;rw[List.getElem_drop];rw[List.length_drop] at hi;have hk:1+i<s.size:=by have:s.data.toList.length=s.size:=rfl;omega
 have e:s.data.toList[1+i]'(by have:s.data.toList.length=s.size:=rfl;omega)=s[1+i]:=by rw[Array.getElem_toList];rfl
 rw[e];exact h _ hk (by omega)
theorem z7j {a b:Int}(h:a=b):Ending.returned (.int .i64 a)=.returned (.int .i64 b):=by rw[h]
theorem z7k (s:ByteArray)(w:World):Calls Tryz.prog 110 #[.string s] w fun e w'=>e=.returned (.bool (z79 s))∧w=w':=by
 go_enter Tryz.func110,Tryz.ntmps110;go_wp2_with (go_at_call 102;refine (Tryz.strings_HasPrefix _ _ _).mono ?_;rintro e w' ⟨rfl,rfl⟩)
 go_ret;exact⟨rfl,rfl⟩
theorem z7l (s:ByteArray)(w:World)(hs:s.size≤maxLen):
  Calls Tryz.prog 161 #[.string s] w fun e w'=>e=.returned (.int .i64 (z7b s))∧w=w':=by
 have hsz:s.size≤9223372036854775807:=by unfold maxLen at hs;omega
 have HC:=hd_ (z19 s w hs);have HP:=hd_ (Tryz.strings_HasPrefix s ⟨#[42]⟩ w);clear hs;cases hc:z0v s with
 | true =>
  have HF:Hid (z7b s=1):=hd_ (by unfold z7b;rw[if_pos hc])
  rw[hc] at HC;clear hc;go_enter Tryz.func161,Tryz.ntmps161;go_wp2_with (go_at_call 103;refine HC.out.mono ?_;rintro e w' ⟨rfl,rfl⟩)
  go_ret;exact⟨z7j HF.out.symm,rfl⟩
 | false =>
  rw[hc] at HC;cases hp:Lib.hasPrefix s.data.toList [42] with
  | false =>
   have HF:Hid (z7b s=0):=hd_ (by unfold z7b z79;rw[hc,hp];rfl)
   have hp':Lib.hasPrefix s.data.toList (⟨#[42]⟩:ByteArray).data.toList=false:=hp;rw[hp'] at HP;clear hc hp hp';go_enter Tryz.func161,Tryz.ntmps161;go_wp2_with (first
    | (go_at_call 103;refine HC.out.mono ?_;rintro e w' ⟨rfl,rfl⟩)
    | (go_at_call 102;refine HP.out.mono ?_;rintro e w' ⟨rfl,rfl⟩))
   go_ret;exact⟨z7j HF.out.symm,rfl⟩
  | true =>
   have HT:Hid (z7b s=if z7a s then 2 else 0):=hd_ (by unfold z7b z79;rw[hc,hp];rfl)
   have h1:1≤s.size:=by
    rcases Nat.eq_zero_or_pos s.size with h0 | h0
    ·have:s.data.toList=[]:=List.eq_nil_of_length_eq_zero (by simpa using h0)
     rw[this] at hp;cases hp
    ·exact h0
   have hp':Lib.hasPrefix s.data.toList (⟨#[42]⟩:ByteArray).data.toList=true:=hp;rw[hp'] at HP;clear hc hp hp';go_enter Tryz.func161,Tryz.ntmps161;go_wp2_with (first
    | (go_at_call 103;refine HC.out.mono ?_;rintro e w' ⟨rfl,rfl⟩)
    | (go_at_call 102;refine HP.out.mono ?_;rintro e w' ⟨rfl,rfl⟩))
   go_loop [3] (fun i=>∃ k:Nat,1≤k∧k≤s.size∧i=.int .i64 k∧Hid (∀ j (hj:j<s.size),1≤j→j<k→z0t s[j].toNat=true)) (fun i=>s.size - (intOf i).toNat)
   case atStart=>exact⟨1,Nat.le_refl _,h1,rfl,fun j _ a b=>by omega⟩
   case round =>
    obtain⟨k,hk1,hk,rfl,HI⟩:=hrel;by_cases hlt:k<s.size
    ·cases hl:z0t s[k].toNat
     ·have HF:Hid (z7b s=0):=hd_ (by rw[HT.out,z7h hlt hk1 hl];rfl)
      have HL:=hd_ hl;clear HI;go_wp2_with (go_at_call 149;refine (z0x _ _).mono ?_;rintro e w' ⟨rfl,rfl⟩)
      go_ret;exact⟨z7j HF.out.symm,rfl⟩
     ·have HN:Hid (∀ j (hj:j<s.size),1≤j→j<k+1→z0t s[j].toNat=true):=hd_ (fun j hj a b=>by
       by_cases e:j=k
       ·subst e;exact hl
       ·exact HI.out j hj a (by omega))
      have HL:=hd_ hl;clear HI;go_wp2_with (go_at_call 149;refine (z0x _ _).mono ?_;rintro e w' ⟨rfl,rfl⟩)
      go_round
      case rel=>exact⟨k+1,by omega,by omega,by go_num,HN.out⟩
      case measure=>simp [intOf];omega
    ·have hke:k=s.size:=by omega
     have HF:Hid (z7b s=2):=hd_ (by rw[HT.out,z7i (fun j hj a=>HI.out j hj a (by omega))];rfl)
     clear HI hke;go_wp2
     go_ret;exact⟨z7j HF.out.symm,rfl⟩
theorem patE_0 {p:Pat}(h:p.parts.length=0):z7e p=30:=by unfold z7e;rw[if_pos (.inl h)]
theorem z9w {p:Pat}(h:p.parts.length=1)(hr:p.rest=false):z7e p=30:=by unfold z7e;rw[if_pos (.inr ⟨h,hr⟩)]
theorem z9x {p:Pat}(h:z7d p.parts=false):z7e p=30:=by
 unfold z7e;by_cases h1:p.parts.length=0∨(p.parts.length=1∧p.rest=false)
 ·rw[if_pos h1]
 ·rw[if_neg h1,if_pos h]
theorem z9y {p:Pat}(h1:¬(p.parts.length=0∨(p.parts.length=1∧p.rest=false)))(h:z7d p.parts=true):z7e p=if 12<p.parts.length then 31 else 0:=by
 unfold z7e;rw[if_neg h1,if_neg (by rw[h];simp)]
theorem z9z (s:ByteArray):z7b s=0∨z7b s=1∨z7b s=2:=by
 unfold z7b;split
 ·exact .inr (.inl rfl)
 ·split
  ·split
   ·exact .inr (.inr rfl)
   ·exact .inl rfl
  ·exact .inl rfl
theorem za0 (p:Pat)(A:Option Addr)(c:Nat)(w:World)(hS:Strs w (.slice A p.parts.length c) p.parts)(hz:∀ x∈p.parts,x.size≤maxLen):
  Calls Tryz.prog 108 #[.agg #[.slice A p.parts.length c,.bool p.rest]] w fun e w'=>e=.returned (.int .i64 (z7e p))∧Below w.heap.size w w':=by
 obtain⟨A',c',e',hcc,hmm,-⟩:=id hS;injection e' with e1 e2 e3
 subst e1 e3;unfold maxLen at hmm;have HS:=hd_ hS;have HZ:=hd_ hz;have HF:=hd_ (fun x (hx:x.size≤maxLen) X=>z7l x X hx);obtain⟨parts,rest⟩:=p;dsimp only at hcc hmm HS HZ ⊢
 have HE0:=hd_ (@patE_0 ⟨parts,rest⟩);have HE1:=hd_ (@z9w ⟨parts,rest⟩);have HEF:=hd_ (@z9x ⟨parts,rest⟩);have HEE:=hd_ (@z9y ⟨parts,rest⟩);have hB:=z0l w [.slice A parts.length c,.bool rest] 97;have hA:Below w.heap.size w (w.alloc (.cells #[.slice A parts.length c,.bool rest] 97)):=(Below.refl _ _).alloc (Nat.le_refl _) _;clear hS hz e2;go_enter Tryz.func108,Tryz.ntmps108;go_upto_region 1 with fail;generalize w.alloc (.cells #[.slice A parts.length c,.bool rest] 97)=W1 at hB hA ⊢;have d0:W1.cell? ⟨w.heap.size,0,none⟩=some (.slice A parts.length c):=hB.cell 0;have d1:W1.cell? ⟨w.heap.size,1,none⟩=some (.bool rest):=hB.cell 1;have HB:=hd_ hB;have HA:=hd_ hA;clear hB hA;by_cases h0:parts.length=0
 ·have q0:((parts.length:Int) == 0)=true:=by rw[beq_iff_eq];omega
  have HR:=hd_ (HE0.out h0);clear h0;go_wp2_with fail;go_ret;exact⟨z7j HR.out.symm,HA.out⟩
 have q0:((parts.length:Int) == 0)=false:=by rw[beq_eq_false_iff_ne];omega
 have HN1:Hid (parts.length=1∧rest=false∨¬(parts.length=0∨(parts.length=1∧rest=false))):=hd_ (by
  by_cases h:parts.length=1∧rest=false
  ·exact .inl h
  ·exact .inr (fun hh=>by rcases hh with hh | hh;exact h0 hh;exact h hh))
 clear h0;rcases HN1.out with⟨h1,hr⟩ | hgood
 ·have q1:((parts.length:Int) == 1)=true:=by rw[beq_iff_eq];omega
  have HR:=hd_ (HE1.out h1 hr);subst hr;clear h1 HN1;go_wp2_with fail;go_ret;exact⟨z7j HR.out.symm,HA.out⟩
 have HG:=hd_ hgood;clear HN1 hgood;go_cut [19] (fun v wx=>v=.bool false∧wx=W1)
 case first =>
  by_cases h1:parts.length=1
  ·have q1:((parts.length:Int) == 1)=true:=by rw[beq_iff_eq];omega
   have hr:rest=true:=by
    cases rest with
    | true=>rfl
    | false=>exact absurd (.inr ⟨h1,rfl⟩) HG.out
   subst hr;clear h1;go_wp2_with fail;go_meet
   exact⟨rfl,rfl⟩
  ·have q1:((parts.length:Int) == 1)=false:=by rw[beq_eq_false_iff_ne];omega
   clear h1;go_wp2_with fail;go_meet
   exact⟨rfl,rfl⟩
 case rest =>
  obtain⟨rfl,rfl⟩:=hcut;clear q0;go_wp2_with fail;go_loop [23] (fun i=>∃ k:Nat,k≤parts.length∧i=.int .i64 k∧Hid (∀ j (hj:j<parts.length),j<k→z7c j parts[j]=true)) (fun i=>parts.length - (intOf i).toNat)
  case atStart=>exact⟨0,Nat.zero_le _,rfl,fun j _ a=>by omega⟩
  case round =>
   obtain⟨k,hk,rfl,HI⟩:=hrel;by_cases hlt:k<parts.length
   ·obtain⟨ad,rfl,hab,x0⟩:=Strs.at_ (HS.out.below HA.out) hlt;have HX:=hd_ (HF.out parts[k] (HZ.out _ (List.getElem_mem hlt)));have HNO:=hd_ (fun h=>HEF.out (z7f hlt h));have HYS:Hid (z7c k parts[k]=true→∀ j (hj:j<parts.length),j<k+1→z7c j parts[j]=true):=hd_ (fun h j hj a=>by
     by_cases e:j=k
     ·subst e;exact h
     ·exact HI.out j hj (by omega))
    have HPO:Hid (z7c k parts[k]=(decide (z7b parts[k]≠0) && !(decide (k=0) && decide (z7b parts[k]=2)))):=hd_ rfl;have hfc:=z9z parts[k];generalize parts[k]=x at x0 HX HNO HYS HPO hfc;generalize z7b x=f at HX HPO hfc;clear HI;rcases hfc with rfl | rfl | rfl
    ·have HR:=hd_ (HNO.out (by rw[HPO.out];rfl))
     go_wp2_with (go_at_call 161;refine (HX.out _).mono ?_;rintro e w' ⟨rfl,rfl⟩)
     go_ret;exact⟨z7j HR.out.symm,HA.out⟩
    ·have HR:=hd_ (HYS.out (by rw[HPO.out];simp))
     go_wp2_with (go_at_call 161;refine (HX.out _).mono ?_;rintro e w' ⟨rfl,rfl⟩)
     go_round
     case rel=>exact⟨k+1,by omega,by go_num,HR.out⟩
     case measure=>simp [intOf];omega
    ·by_cases hk0:k=0
     ·have HR:=hd_ (HNO.out (by rw[HPO.out,hk0];rfl))
      have qk:((k:Int) == 0)=true:=by rw[beq_iff_eq];omega
      have HK:=hd_ hk0;clear hk0;go_wp2_with (go_at_call 161;refine (HX.out _).mono ?_;rintro e w' ⟨rfl,rfl⟩)
      go_ret;exact⟨z7j HR.out.symm,HA.out⟩
     ·have HR:=hd_ (HYS.out (by rw[HPO.out];simp [hk0]))
      have qk:((k:Int) == 0)=false:=by rw[beq_eq_false_iff_ne];omega
      clear hk0;go_wp2_with (go_at_call 161;refine (HX.out _).mono ?_;rintro e w' ⟨rfl,rfl⟩)
      go_round
      case rel=>exact⟨k+1,by omega,by go_num,HR.out⟩
      case measure=>simp [intOf];omega
   ·have HR:=hd_ (HEE.out HG.out (z7g (fun j hj=>HI.out j hj (by omega))))
    have hge:¬((k:Int)<(parts.length:Int)):=by omega
    clear HI;by_cases h12:12<parts.length
    ·have q12:decide ((12:Int)<(parts.length:Int))=true:=by simp;omega
     rw[if_pos h12] at HR;clear h12;go_wp2_with fail;go_ret;exact⟨z7j HR.out.symm,HA.out⟩
    ·have q12:decide ((12:Int)<(parts.length:Int))=false:=by simp;omega
     rw[if_neg h12] at HR;clear h12;go_wp2_with fail;go_ret;exact⟨z7j HR.out.symm,HA.out⟩
theorem zce {P:Program}{W:World}{ops:Array Oper}{o:Oper}{a:Act}{K:Act→World→Prop}{Q:Exit→Act→World→Prop}{E:Prop}(hgd:o.guard=none){s x:Operand}{t:TypeId}
  (ho:o.op=.call { callee:=.builtin .append,args:=#[s,x],argTypes:=#[t,t] })
  {e:TypeId} {size bytes base:Nat} (he:z0e P t e size bytes) {v:Value} {n:Nat} {xs:List Value} (hown:W.ownsRow base e size v n xs) (hs:a.eval s=v)
  {u:Value} {m:Nat} {news:List Value} (hr:Row W size u m news) (hx:a.eval x=u) (h1:∀ u∈news,u.oneCell'=true) (hbytes:(n+m) * bytes≤140737488355328) (h63:n+m≤maxLen) (hbase:base≤W.heap.size)
  (h:∀ A' c' w',w'.ownsRow base e size (.slice A' (n+m) c') (n+m) (xs++news)→W.grownBy w' v.ownBlock →
   ((Value.slice A' (n+m) c').ownBlock=v.ownBlock∨(Value.slice A' (n+m) c').ownBlock=some W.heap.size)→K (a.put o.dst (.slice A' (n+m) c')) w'):
  if Region.wanted o (yielded ops a.tmps)=true then Oper.wp P o a W K Q else E:=by
 have hw:Region.wanted o (yielded ops a.tmps)=true:=by simp [Region.wanted,hgd]
 rw[if_pos hw];obtain⟨A',c',w',hrun,h2,h3,h4⟩:=z0h (ty:=o.type) he hown hr h1 hbytes h63 hbase;unfold Oper.wp execOp;simp only[ho,resolve,invoke,builtin,Sem.run_bind,Sem.run_pure,Result.andThen_ok,List.map_toArray,List.map_cons,List.map_nil,hs,hx,hrun]
 exact h A' c' w' h2 h3 h4
theorem zcf {a w:World}(h:Below a.heap.size a w)(o:Obj):Below a.heap.size a (w.alloc o):=h.alloc h.size o
theorem Blk.below' {w w':World}{g:Nat}{e:TypeId}{cs:List Value}(h:Blk w g e cs)(hb:Below w.heap.size w w'):Blk w' g e cs:=h.below hb h.lt
theorem Blk.drew' {w:World}{g:Nat}{e:TypeId}{cs:List Value}(h:Blk w g e cs):Blk w.drew g e cs:=h
theorem zcg {w:World}{B:Nat}{e:TypeId}{k:Nat}{v:Value}{n:Nat}{xs:List Value}(h:w.ownsRow B e k v n xs)(o:Obj):(w.alloc o).ownsRow B e k v n xs:=z0n h ((Below.refl _ _).alloc (Nat.le_refl _) _)
theorem zch {w:World}{g:Nat}{cs:List Value}{e:TypeId}(hg:g=w.heap.size):Blk (w.alloc (.cells cs.toArray e)) g e cs:=by rw[hg];exact z0l w cs e
def zci (n:Nat):Code→Option (Array Oper)
 | .region i ops _=>if i=n then some ops else none
 | .seq a b=>(zci n a).or (zci n b)
 | .cond _ a b=>(zci n a).or (zci n b)
 | .block _ a=>zci n a
 | .loop a=>zci n a
 | _=>none
def Under (n k:Int):Prop:=0≤k∧(1<n→k<n)∧(n≤1→k=0)
theorem zgd (x n:Int)(h:1<n):-n<x.tmod n∧x.tmod n<n:=by
 have h1:=Int.tmod_lt_of_pos x (b:=n) (by omega)
 have h2:=Int.lt_tmod_of_pos x (b:=n) (by omega)
 exact⟨by omega,h1⟩
theorem zge (v n:Int)(w:World)(hn:n≤1000000000):Calls Tryz.prog 48 #[.int .i64 v,.int .i64 n] w fun e w'=>∃ k,e=.returned (.int .i64 k)∧Under n k∧w=w':=by
 by_cases h1:n≤1
 ·have q:decide (n≤1)=true:=decide_eq_true h1;go_enter Tryz.func48,Tryz.ntmps48;go_wp2_with fail;go_ret;exact⟨0,rfl,⟨by omega,fun h=>by omega,fun _=>rfl⟩,rfl⟩
 ·have q:decide (n≤1)=false:=decide_eq_false h1;have q0:(n == 0)=false:=by rw[beq_eq_false_iff_ne];omega
  have q1:(n == -1)=false:=by rw[beq_eq_false_iff_ne];omega
  obtain⟨a1,a2⟩:=zgd v n (by omega)
  obtain⟨r,hr⟩:∃ r,v.tmod n=r:=⟨_,rfl⟩;rw[hr] at a1 a2;have hw:IntKind.i64.wrap r=r:=by rw[IntKind.wrap_i64];omega
  by_cases h2:r<0
  ·have q2:decide (r<0)=true:=decide_eq_true h2;have hw2:IntKind.i64.wrap (r+n)=r+n:=by rw[IntKind.wrap_i64];omega
   go_enter Tryz.func48,Tryz.ntmps48;go_wp2_with fail;go_ret;exact⟨_,rfl,⟨by omega,fun _=>by omega,fun h=>by omega⟩,rfl⟩
  ·have q2:decide (r<0)=false:=decide_eq_false h2;go_enter Tryz.func48,Tryz.ntmps48;go_wp2_with fail;go_ret;exact⟨_,rfl,⟨by omega,fun _=>by omega,fun h=>by omega⟩,rfl⟩
end Go.Proofs.YtegeboijhifmcaaGreatDoor
/- The world of the witness: the listed tables hold what their initialisers lay. -/
namespace Go.Proofs.YtegeboijhifmcaaGreatDoor.cardBase
open Go.ChangeShapes Go.WideShapes Go.ChangeAt Go.RowKit
theorem own:ownKnob Tryz.prog.godebug=none:=by kernel_rfl
theorem laidOut:laidOutB Tryz.prog=true:=by kernel_rfl
def lay0:Obj→Obj
 | .cells _ t frozen=>.cells #[.int .u8 128,.int .u8 191,.int .u8 160,.int .u8 191,.int .u8 128,.int .u8 159,.int .u8 144,.int .u8 191,.int .u8 128,.int .u8 143,.int .u8 0,.int .u8 0,.int .u8 0,.int .u8 0,.int .u8 0,.int .u8 0,.int .u8 0,.int .u8 0,.int .u8 0,.int .u8 0,.int .u8 0,.int .u8 0,.int .u8 0,.int .u8 0,.int .u8 0,.int .u8 0,.int .u8 0,.int .u8 0,.int .u8 0,.int .u8 0,.int .u8 0,.int .u8 0] t frozen
 | o=>o
def lay1:Obj→Obj
 | .cells _ t frozen=>.cells (Go.Pinned.utf8FirstZ.map fun(n:Nat)=>Value.int .u8 (n:Int)).toArray t frozen
 | o=>o
noncomputable def laidWorld (os:Os):World:=
 { World.holding Tryz.prog os ⟨#[],#[],[]⟩ with heap:=(((World.holding Tryz.prog os ⟨#[],#[],[]⟩).heap.modify 2 lay0).modify 1 lay1) }
end Go.Proofs.YtegeboijhifmcaaGreatDoor.cardBase
