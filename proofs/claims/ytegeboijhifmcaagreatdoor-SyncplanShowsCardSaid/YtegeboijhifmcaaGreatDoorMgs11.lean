/- A part of the proof. -/
import Derived.Test.YtegeboijhifmcaaGreatDoorMgs5
import Derived.Test.YtegeboijhifmcaaGreatDoorMgs6
import Derived.Test.YtegeboijhifmcaaGreatDoorMgs1
import Derived.Test.YtegeboijhifmcaaGreatDoorMgs4
set_option linter.unusedVariables false
set_option linter.unusedSimpArgs false
set_option maxHeartbeats 2000000
set_option maxRecDepth 100000
namespace Go.Proofs.YtegeboijhifmcaaGreatDoor
open Go.Proofs.Tryz
open Go.RowKit
def z94 (s:ByteArray):Bool:=z79 s && z7a s
def z95 (s:ByteArray):Bool:=z94 s || z0v s
def z96 (part comp:ByteArray):ByteArray:=comp.extract 0 (comp.size - (z80 part).size)
def z97 (part comp:ByteArray):ByteArray:=if z94 part && Lib.hasSuffix comp.data.toList (z80 part).data.toList then z96 part comp else z2l
def z98 (part comp:ByteArray):Bool:=if z94 part then Lib.hasSuffix comp.data.toList (z80 part).data.toList && z0v (z96 part comp) else decide (part=comp)
theorem z99 {s:ByteArray}{c:UInt8}{t:List UInt8}(hd:s.data.toList=c :: t):z79 s=decide (c=42):=by
 unfold z79 Lib.hasPrefix;rw[hd];by_cases h:c=42
 ·subst h;simp
 ·have:¬(42:UInt8)=c:=fun e=>h e.symm;simp [h,this,List.isPrefixOf]
theorem z9a {s:ByteArray}(h:z79 s=true):z0v s=false:=by
 have h1:=z83 h;obtain⟨c,t,hd,-⟩:=z14 (show 0<s.size by omega)
 rw[z99 hd] at h;have hc:c=42:=of_decide_eq_true h;unfold z0v z0u;rw[hd,hc];have h2:z0t 42=false:=by decide
 simp [h2]
theorem z9b {s:ByteArray}(h:z7b s≠0):z94 s=z79 s:=by
 unfold z94;cases hs:z79 s with
 | false=>rfl
 | true =>
  unfold z7b at h;rw[z9a hs,hs] at h;cases ht:z7a s with
  | true=>rfl
  | false=>rw[ht] at h;exact absurd rfl h
theorem z9c (s:ByteArray):decide (z7b s≠0)=z95 s:=by
 unfold z95 z94 z7b;cases z0v s <;> cases z79 s <;> cases z7a s <;> rfl
theorem z9d (s:ByteArray):z7c 0 s=z0v s:=by
 unfold z7c z7b;cases hc:z0v s
 ·cases z79 s <;> cases z7a s <;> rfl
 ·rfl
theorem z9e {l:List UInt8}(h:z0u l=true)(n:Nat):z0u (l.take n)=!(l.take n).isEmpty:=by
 unfold z0u at h ⊢
 cases l with
 | nil=>simp at h
 | cons a l =>
  cases n with
  | zero=>rfl
  | succ n =>
   simp only[List.take_succ_cons,List.isEmpty_cons,List.head?_cons,List.all_cons,Bool.not_false,Bool.true_and,Bool.and_eq_true] at h ⊢
   obtain⟨h1,h2,h3⟩:=h;refine⟨h1,h2,?_⟩;rw[List.all_eq_true] at h3 ⊢;exact fun x hx=>h3 x (List.mem_of_mem_take hx)
theorem z9f (part comp:ByteArray):(z96 part comp).data.toList=comp.data.toList.take (comp.data.toList.length - (z80 part).data.toList.length):=by
 unfold z96;have h1:comp.size=comp.data.toList.length:=rfl;have h2:(z80 part).size=(z80 part).data.toList.length:=rfl;rw[h1,h2,ByteArray.data_extract,Array.toList_extract];simp [List.extract]
theorem z9g {part comp:ByteArray}(hp:z7b part≠0)(hc:z0v comp=true):z98 part comp=z82 part comp:=by
 unfold z98 z82;rw[z9b hp];cases hs:z79 part with
 | false=>simp only[Bool.false_eq_true,if_false]
 | true =>
  simp only[if_true]
  cases hh:Lib.hasSuffix comp.data.toList (z80 part).data.toList with
  | false=>simp only[Bool.false_and]
  | true =>
   simp only[Bool.true_and]
   have hv:z81 part comp=z96 part comp:=by
    unfold z81;rw[hs,if_pos rfl];unfold Lib.trimSuffix;rw[hh,if_pos rfl,← z9f]
   rw[hv];unfold z0v at hc ⊢
   rw[z9f,z9e hc,← z9f];have he:(z96 part comp).data.toList.isEmpty=decide (z96 part comp=z2l):=by
    rw[Bool.eq_iff_iff,decide_eq_true_eq,List.isEmpty_iff];constructor
    ·intro h;cases hx:z96 part comp with | mk a =>
     rw[hx] at h;unfold z2l;congr 1
     exact Array.toList_eq_nil_iff.1 h
    ·intro h;rw[h];rfl
   rw[he]
theorem z9h {s:ByteArray}(h:s.size=0):z94 s=false:=by
 have hl:s.data.toList=[]:=List.eq_nil_of_length_eq_zero (by simpa using h)
 unfold z94 z79;rw[hl];rfl
theorem z9i {s:ByteArray}{c:UInt8}{t:List UInt8}(hd:s.data.toList=c :: t)(hc:¬ c=42):z94 s=false:=by
 unfold z94;rw[z99 hd,decide_eq_false hc];rfl
theorem z9j {s:ByteArray}{c:UInt8}{t:List UInt8}(hd:s.data.toList=c :: t)(hc:c=42):z94 s=z7a s:=by
 unfold z94;rw[z99 hd,decide_eq_true hc];rfl
def z9k (s:ByteArray)(w:World)(e:Ending)(w':World):Prop:=e=.returned (.tuple #[.string (if z94 s then z80 s else z2l),.bool (z94 s)])∧w=w'
theorem z9l {s:ByteArray}{w:World}(h:z94 s=false):z9k s w (.returned (.tuple #[.string ⟨#[]⟩,.bool false])) w:=by unfold z9k;rw[h];exact⟨rfl,rfl⟩
theorem z9m {s:ByteArray}{w:World}(h:z94 s=true):z9k s w (.returned (.tuple #[.string (s.extract 1 s.size),.bool true])) w:=by unfold z9k;rw[h];exact⟨rfl,rfl⟩
theorem z9n (s:ByteArray)(w:World)(hs:s.size≤maxLen):Calls prog 217 #[.string s] w (z9k s w):=by
 unfold maxLen at hs;rcases Nat.eq_zero_or_pos s.size with h0 | h0
 ·have hne:s.toList=[]:=by rw[ByteArray.toList_eq];exact List.eq_nil_of_length_eq_zero (by simpa using h0)
  have H0:=hd_ (z9l (w:=w) (z9h h0));clear h0;go_enter func217,ntmps217;go_wp2_with fail;go_ret2;exact H0.out
 ·obtain⟨c,t,hd,hc⟩:=z14 h0;have hne:s.toList.isEmpty=false:=by rw[ByteArray.toList_eq,hd];rfl
  have hne2:¬ s.toList=[]:=by rw[ByteArray.toList_eq,hd];simp
  by_cases h42:c=42
  ·have q42:((s[0].toNat:Int) == 42)=true:=by rw[hc,h42];rfl
   have q42':((s[0].toNat:Int) != 42)=false:=by rw[hc,h42];rfl
   have HT:=hd_ (z9j hd h42);have HN:=hd_ (fun k (h:k<s.size) (h1:1≤k) (hb:z0t s[k].toNat=false)=>z9l (w:=w) (HT.out.trans (z7h h h1 hb)));have HY:=hd_ (fun(h:∀ k (hk:k<s.size),1≤k→z0t s[k].toNat=true)=>z9m (w:=w) (HT.out.trans (z7i h)));clear hd hc h42;go_enter func217,ntmps217;go_wp2_with fail;clear q42 q42';go_loop [4] (fun i=>∃ k:Nat,1≤k∧k≤s.size∧i=.int .i64 k∧Hid (∀ j (hj:j<s.size),1≤j→j<k→z0t s[j].toNat=true)) (fun i=>s.size - (intOf i).toNat)
   case atStart=>exact⟨1,Nat.le_refl _,h0,rfl,fun j _ a b=>by omega⟩
   case round =>
    obtain⟨k,hk1,hk,rfl,HI⟩:=hrel;by_cases hlt:k<s.size
    ·cases hl:z0t s[k].toNat
     ·have HR:=hd_ (HN.out k hlt hk1 hl);have HL:=hd_ hl;clear HI hl;go_wp2_with fail;refine (z8r s[k] _ _ HL.out).mono ?_;rintro e w' ⟨n,rfl,hn,rfl⟩;have hn':decide (n<0)=true:=hn;clear hn;go_wp2
      go_ret2;exact HR.out
     ·have HJ:Hid (∀ j (hj:j<s.size),1≤j→j<k+1→z0t s[j].toNat=true):=hd_ (fun j hj a b=>by
       by_cases e:j=k
       ·subst e;exact hl
       ·exact HI.out j hj a (by omega))
      have HL:=hd_ hl;clear HI hl;go_wp2_with fail;refine (z8r s[k] _ _ HL.out).mono ?_;rintro e w' ⟨n,rfl,hn,rfl⟩;have hn':decide (n<0)=false:=hn;clear hn;go_wp2
      go_round
      case rel=>exact⟨k+1,by omega,by omega,by go_num,HJ.out⟩
      case measure=>simp [intOf];omega
    ·have HR:=hd_ (HY.out (fun j hj a=>HI.out j hj a (by omega)))
     clear HI;go_wp2_with fail;go_ret2;exact HR.out
  ·have q42:((s[0].toNat:Int) == 42)=false:=by
    rw[hc,beq_eq_false_iff_ne];intro h;exact h42 (UInt8.toNat.inj (show c.toNat=42 by omega))
   have q42':((s[0].toNat:Int) != 42)=true:=by
    rw[hc,bne_iff_ne];intro h;exact h42 (UInt8.toNat.inj (show c.toNat=42 by omega))
   have H0:=hd_ (z9l (w:=w) (z9i hd h42));clear hd hc h42;go_enter func217,ntmps217;go_wp2_with fail;go_ret2;exact H0.out
theorem z9o (s:ByteArray)(w:World)(hs:s.size≤maxLen):Calls prog 216 #[.string s] w fun e w'=>e=.returned (.bool (z95 s))∧w=w':=by
 have HS:=hd_ (z9n s w hs);have HC:=hd_ (z8s s w hs);unfold z9k at HS;unfold z95;generalize z80 s=x at HS;cases hb:z94 s with
 | true =>
  rw[hb] at HS;clear hb;go_enter func216,ntmps216;go_wp2_with fail;refine HS.out.mono ?_;rintro e w' ⟨rfl,rfl⟩;go_wp2_with fail;go_ret;exact⟨rfl,rfl⟩
 | false =>
  rw[hb] at HS;clear hb;go_enter func216,ntmps216;go_wp2_with fail;refine HS.out.mono ?_;rintro e w' ⟨rfl,rfl⟩;go_wp2_with fail;refine HC.out.mono ?_;rintro e w' ⟨rfl,rfl⟩;go_wp2_with fail;go_ret;exact⟨rfl,rfl⟩
theorem z9p (s p:ByteArray)(w:World)(b:Bool)(hz:s.size≤9223372036854775807)(h:Lib.hasSuffix s.data.toList p.data.toList=b):Calls prog 230 #[.string s,.string p] w fun e w'=>e=.returned (.bool b)∧w=w':=by
 refine (Tryz.strings_HasSuffix s p w hz).mono ?_;rintro e w' ⟨rfl,rfl⟩;exact⟨by rw[h],rfl⟩
theorem z9q {s p:ByteArray}(h:Lib.hasSuffix s.data.toList p.data.toList=true):p.size≤s.size:=by
 have:p.data.toList <:+ s.data.toList:=List.isSuffixOf_iff_suffix.1 h;exact this.length_le
theorem z9r (part comp:ByteArray)(w:World)(hp:part.size≤maxLen)(hs:comp.size≤maxLen):
  Calls prog 246 #[.string part,.string comp] w fun e w'=>e=.returned (.tuple #[.string (z97 part comp),.bool (z98 part comp)])∧w=w':=by
 have HS:=hd_ (z9n part w hp);unfold z9k at HS;cases hb:z94 part with
 | false =>
  have HV:Hid (z97 part comp=⟨#[]⟩∧z98 part comp=decide (part=comp)):=hd_ (by unfold z97 z98;rw[hb];exact⟨rfl,rfl⟩)
  have HE:=hd_ (z84 part comp);rw[hb] at HS;clear hb;go_enter func246,ntmps246;go_wp2_with fail;refine HS.out.mono ?_;rintro e w' ⟨rfl,rfl⟩;go_wp2_with fail;go_ret2;exact⟨z85 HV.out.1.symm (by rw[HV.out.2];exact HE.out),rfl⟩
 | true =>
  rw[hb] at HS;cases hh:Lib.hasSuffix comp.data.toList (z80 part).data.toList with
  | false =>
   have HV:Hid (z97 part comp=⟨#[]⟩∧z98 part comp=false):=hd_ (by unfold z97 z98;rw[hb,hh];exact⟨if_neg (by decide),by rw[if_pos rfl,Bool.false_and]⟩)
   have HH:=hd_ (z9p comp (z80 part) w false (by unfold maxLen at hs;omega) hh)
   clear hb hh;simp only[if_true] at HS
   generalize z80 part=x at HS HH;go_enter func246,ntmps246;go_wp2_with fail;refine HS.out.mono ?_;rintro e w' ⟨rfl,rfl⟩;go_wp2_with fail;refine HH.out.mono ?_;rintro e w' ⟨rfl,rfl⟩;go_wp2_with fail;go_ret2;exact⟨z85 HV.out.1.symm HV.out.2.symm,rfl⟩
  | true =>
   have HV:Hid (z97 part comp=z96 part comp∧z98 part comp=z0v (z96 part comp)):=hd_ (by unfold z97 z98;rw[hb,hh];exact⟨if_pos rfl,by rw[if_pos rfl,Bool.true_and]⟩)
   have HH:=hd_ (z9p comp (z80 part) w true (by unfold maxLen at hs;omega) hh)
   have hle:=z9q hh;have hCX:z96 part comp=comp.extract 0 (comp.size - (z80 part).size):=rfl;have HC:=hd_ (fun(x:ByteArray) (hx:x.size≤maxLen)=>z8s x w hx);clear hb hh;simp only[if_true] at HS
   generalize z80 part=x at HS HH hle hCX;obtain⟨n,hn⟩:∃ n,comp.size - x.size=n:=⟨_,rfl⟩;rw[hn] at hCX;have hz:((comp.size:Int) - (x.size:Int))=(n:Int):=by omega
   unfold maxLen at hp hs;have hw:IntKind.i64.wrap ((comp.size:Int) - (x.size:Int))=(n:Int):=by rw[IntKind.wrap_i64];omega
   have hnc:n≤comp.size:=by omega
   have HC2:=hd_ (HC.out (comp.extract 0 n) (by unfold maxLen;rw[ByteArray.size_extract];omega))
   rw[← hCX] at HC2;have HCX:=hd_ hCX;clear hn hle HC hCX;go_enter func246,ntmps246;go_wp2_with fail;refine HS.out.mono ?_;rintro e w' ⟨rfl,rfl⟩;go_wp2_with fail;refine HH.out.mono ?_;rintro e w' ⟨rfl,rfl⟩;go_wp2_with fail;rw[← HCX.out];refine HC2.out.mono ?_;rintro e w' ⟨rfl,rfl⟩;go_wp2_with fail;go_ret2;exact⟨z85 (by rw[HV.out.1]) HV.out.2.symm,rfl⟩
def z9s (a b:ByteArray):Bool:=if a=b then true else if z79 b then (if z79 a then Lib.hasSuffix (z80 a).data.toList (z80 b).data.toList else z82 b a) else false
def z9t (a b:ByteArray):Option ByteArray:=if z9s a b then some a else if z9s b a then some b else none
theorem z9u (a b:ByteArray)(w:World)(ha:a.size≤1000000)(hb:b.size≤1000000):
  Calls prog 191 #[.string a,.string b] w fun e w'=>e=.returned (.bool (z9s a b))∧Below w.heap.size w w':=by
 have HA:=hd_ (fun X=>z7k a X);have HB:=hd_ (fun X=>z7k b X);have HM:=hd_ (fun X=>z86 b a X (by omega) (by omega))
 have HX:=hd_ (fun X=>z9p (a.extract 1 a.size) (b.extract 1 b.size) X _ (by rw[ByteArray.size_extract];omega) rfl)
 have HW:Hid (z9s a b=if a=b then true else if z79 b then (if z79 a then Lib.hasSuffix (z80 a).data.toList (z80 b).data.toList else z82 b a) else false):=hd_ rfl;have HSA:Hid (z79 a=true→1≤a.size):=hd_ z83;have HSB:Hid (z79 b=true→1≤b.size):=hd_ z83;generalize hwb:z9s a b=r at HW ⊢;clear hwb;by_cases he:a=b
 ·have q:(a.toList == b.toList)=true:=by rw[z84];simpa using he
  have HR:Hid (r=true):=hd_ (by rw[HW.out,if_pos he])
  clear he HW HX HM;go_enter func191,ntmps191;go_wp2_with fail;go_ret;exact⟨by rw[HR.out];rfl,Below.refl _ _⟩
 have q:(a.toList == b.toList)=false:=by rw[z84];simpa using he
 rw[if_neg he] at HW;clear he;generalize z79 b=sb at HB HW HSB;cases sb with
 | false =>
  have HR:Hid (r=false):=hd_ (by rw[HW.out];rfl)
  clear HW HX HM;go_enter func191,ntmps191;go_wp2_with (go_at_call 110;refine (HB.out _).mono ?_;rintro e w' ⟨rfl,rfl⟩)
  go_ret;exact⟨by rw[HR.out];rfl,Below.refl _ _⟩
 | true =>
  rw[if_pos rfl] at HW;generalize z79 a=sa at HA HW HSA;cases sa with
  | false =>
   have HR:Hid (r=z82 b a):=hd_ (by rw[HW.out];rfl)
   clear HW HX;generalize z82 b a=y at HM HR;generalize z81 b a=x at HM;go_enter func191,ntmps191;go_wp2_with (first
    | (go_at_call 110;refine (HB.out _).mono ?_;rintro e w' ⟨rfl,rfl⟩)
    | (go_at_call 110;refine (HA.out _).mono ?_;rintro e w' ⟨rfl,rfl⟩)
    | (go_at_call 109;refine (HM.out _).mono ?_;rintro e w' ⟨rfl,rfl⟩))
   go_ret;exact⟨by rw[HR.out];rfl,Below.refl _ _⟩
  | true =>
   have HR:Hid (r=Lib.hasSuffix (a.extract 1 a.size).data.toList (b.extract 1 b.size).data.toList):=hd_ (by rw[HW.out];rfl)
   have la:(1:Int)≤(a.size:Int):=by have:=HSA.out rfl;omega
   have lb:(1:Int)≤(b.size:Int):=by have:=HSB.out rfl;omega
   have za:a.size≤1000000:=ha;have zb:b.size≤1000000:=hb;clear HW HM;generalize Lib.hasSuffix (a.extract 1 a.size).data.toList (b.extract 1 b.size).data.toList=y at HX HR;go_enter func191,ntmps191;go_wp2_with (first
    | (go_at_call 110;refine (HB.out _).mono ?_;rintro e w' ⟨rfl,rfl⟩)
    | (go_at_call 110;refine (HA.out _).mono ?_;rintro e w' ⟨rfl,rfl⟩))
   go_region_law (go_simp;go_at_call 230;refine (HX.out _).mono ?_;rintro e w' ⟨rfl,rfl⟩)
   go_wp2_with fail;go_ret;exact⟨by rw[HR.out];rfl,by repeat (first | exact Below.refl _ _ | with_reducible refine Below.drew ?_)⟩
theorem z9v (a b:ByteArray)(w:World)(ha:a.size≤1000000)(hb:b.size≤1000000):
  Calls prog 145 #[.string a,.string b] w fun e w'=>e=.returned (.tuple #[.string ((z9t a b).getD ⟨#[]⟩),.bool (z9t a b).isSome])∧Below w.heap.size w w':=by
 have H1:=hd_ (fun X=>z9u a b X ha hb);have H2:=hd_ (fun X=>z9u b a X hb ha);have HM:Hid (z9t a b=if z9s a b then some a else if z9s b a then some b else none):=hd_ rfl;generalize z9t a b=m at HM ⊢;generalize z9s a b=x at H1 HM;generalize z9s b a=y at H2 HM;cases x with
 | true =>
  rw[show m=some a from HM.out];clear HM;go_enter func145,ntmps145;go_wp2_with fail;refine (H1.out w).mono ?_;rintro e w1 ⟨rfl,hb1⟩;go_wp2_with fail;go_ret2;exact⟨rfl,hb1⟩
 | false =>
  cases y with
  | true =>
   rw[show m=some b from HM.out];clear HM;go_enter func145,ntmps145;go_wp2_with fail;refine (H1.out w).mono ?_;rintro e w1 ⟨rfl,hb1⟩;go_wp2_with fail;refine (H2.out w1).mono ?_;rintro e w2 ⟨rfl,hb2⟩;go_wp2_with fail;go_ret2;exact⟨rfl,z0r hb1 hb2⟩
  | false =>
   rw[show m=none from HM.out];clear HM;go_enter func145,ntmps145;go_wp2_with fail;refine (H1.out w).mono ?_;rintro e w1 ⟨rfl,hb1⟩;go_wp2_with fail;refine (H2.out w1).mono ?_;rintro e w2 ⟨rfl,hb2⟩;go_wp2_with fail;go_ret2;exact⟨rfl,z0r hb1 hb2⟩
end Go.Proofs.YtegeboijhifmcaaGreatDoor
