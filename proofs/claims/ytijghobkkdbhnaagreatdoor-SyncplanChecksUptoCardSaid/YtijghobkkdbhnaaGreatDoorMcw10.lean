/- A part. -/
import Derived.Test.YtijghobkkdbhnaaGreatDoorMcw8
import Derived.Test.YtijghobkkdbhnaaGreatDoorMcw5
set_option linter.unusedVariables false
set_option linter.unusedSimpArgs false
set_option maxHeartbeats 2000000
namespace Go.Proofs.YtijghobkkdbhnaaGreatDoor
open Go.Proofs.Tryz
open Go.RowKit
def zbl (s:ByteArray):Bool:=z7b s && z7c s
def zbm (s:ByteArray):Bool:=zbl s || z12 s
def zbn (part comp:ByteArray):ByteArray:=comp.extract 0 (comp.size - (z82 part).size)
def zbo (part comp:ByteArray):ByteArray:=if zbl part && Lib.hasSuffix comp.data.toList (z82 part).data.toList then zbn part comp else z2q
def zbp (part comp:ByteArray):Bool:=if zbl part then Lib.hasSuffix comp.data.toList (z82 part).data.toList && z12 (zbn part comp) else decide (part=comp)
theorem zbq {s:ByteArray}{c:UInt8}{t:List UInt8}(hd:s.data.toList=c :: t):z7b s=decide (c=42):=by
 unfold z7b Lib.hasPrefix;rw[hd];by_cases h:c=42
 ·subst h;simp
 ·have:¬(42:UInt8)=c:=fun e=>h e.symm;simp [h,this,List.isPrefixOf]
theorem zbr {s:ByteArray}(h:z7b s=true):z12 s=false:=by
 have h1:=z85 h;obtain⟨c,t,hd,-⟩:=z19 (show 0<s.size by omega)
 rw[zbq hd] at h;have hc:c=42:=of_decide_eq_true h;unfold z12 z0z;rw[hd,hc];have h2:z0y 42=false:=by decide
 simp [h2]
theorem zbs {s:ByteArray}(h:z7d s≠0):zbl s=z7b s:=by
 unfold zbl;cases hs:z7b s with
 | false=>rfl
 | true =>
  unfold z7d at h;rw[zbr hs,hs] at h;cases ht:z7c s with
  | true=>rfl
  | false=>rw[ht] at h;exact absurd rfl h
theorem zbt (s:ByteArray):decide (z7d s≠0)=zbm s:=by
 unfold zbm zbl z7d;cases z12 s <;> cases z7b s <;> cases z7c s <;> rfl
theorem zbu (s:ByteArray):z7e 0 s=z12 s:=by
 unfold z7e z7d;cases hc:z12 s
 ·cases z7b s <;> cases z7c s <;> rfl
 ·rfl
theorem zbv {l:List UInt8}(h:z0z l=true)(n:Nat):z0z (l.take n)=!(l.take n).isEmpty:=by
 unfold z0z at h ⊢
 cases l with
 | nil=>simp at h
 | cons a l =>
  cases n with
  | zero=>rfl
  | succ n =>
   simp only[List.take_succ_cons,List.isEmpty_cons,List.head?_cons,List.all_cons,Bool.not_false,Bool.true_and,Bool.and_eq_true] at h ⊢
   obtain⟨h1,h2,h3⟩:=h;refine⟨h1,h2,?_⟩;rw[List.all_eq_true] at h3 ⊢;exact fun x hx=>h3 x (List.mem_of_mem_take hx)
theorem zbw (part comp:ByteArray):(zbn part comp).data.toList=comp.data.toList.take (comp.data.toList.length - (z82 part).data.toList.length):=by
 unfold zbn;have h1:comp.size=comp.data.toList.length:=rfl;have h2:(z82 part).size=(z82 part).data.toList.length:=rfl;rw[h1,h2,ByteArray.data_extract,Array.toList_extract];simp [List.extract]
theorem zbx {part comp:ByteArray}(hp:z7d part≠0)(hc:z12 comp=true):zbp part comp=z84 part comp:=by
 unfold zbp z84;rw[zbs hp];cases hs:z7b part with
 | false=>simp only[Bool.false_eq_true,if_false]
 | true =>
  simp only[if_true]
  cases hh:Lib.hasSuffix comp.data.toList (z82 part).data.toList with
  | false=>simp only[Bool.false_and]
  | true =>
   simp only[Bool.true_and]
   have hv:z83 part comp=zbn part comp:=by
    unfold z83;rw[hs,if_pos rfl];unfold Lib.trimSuffix;rw[hh,if_pos rfl,← zbw]
   rw[hv];unfold z12 at hc ⊢
   rw[zbw,zbv hc,← zbw];have he:(zbn part comp).data.toList.isEmpty=decide (zbn part comp=z2q):=by
    rw[Bool.eq_iff_iff,decide_eq_true_eq,List.isEmpty_iff];constructor
    ·intro h;cases hx:zbn part comp with | mk a =>
     rw[hx] at h;unfold z2q;congr 1
     exact Array.toList_eq_nil_iff.1 h
    ·intro h;rw[h];rfl
   rw[he]
theorem zby {s:ByteArray}(h:s.size=0):zbl s=false:=by
 have hl:s.data.toList=[]:=List.eq_nil_of_length_eq_zero (by simpa using h)
 unfold zbl z7b;rw[hl];rfl
theorem zbz {s:ByteArray}{c:UInt8}{t:List UInt8}(hd:s.data.toList=c :: t)(hc:¬ c=42):zbl s=false:=by
 unfold zbl;rw[zbq hd,decide_eq_false hc];rfl
theorem zc0 {s:ByteArray}{c:UInt8}{t:List UInt8}(hd:s.data.toList=c :: t)(hc:c=42):zbl s=z7c s:=by
 unfold zbl;rw[zbq hd,decide_eq_true hc];rfl
def zc1 (s:ByteArray)(w:World)(e:Ending)(w':World):Prop:=e=.returned (.tuple #[.string (if zbl s then z82 s else z2q),.bool (zbl s)])∧w=w'
theorem zc2 {s:ByteArray}{w:World}(h:zbl s=false):zc1 s w (.returned (.tuple #[.string ⟨#[]⟩,.bool false])) w:=by unfold zc1;rw[h];exact⟨rfl,rfl⟩
theorem zc3 {s:ByteArray}{w:World}(h:zbl s=true):zc1 s w (.returned (.tuple #[.string (s.extract 1 s.size),.bool true])) w:=by unfold zc1;rw[h];exact⟨rfl,rfl⟩
theorem zc4 (s:ByteArray)(w:World)(hs:s.size≤maxLen):Calls prog 111 #[.string s] w (zc1 s w):=by
 unfold maxLen at hs;rcases Nat.eq_zero_or_pos s.size with h0 | h0
 ·have hne:s.toList=[]:=by rw[ByteArray.toList_eq];exact List.eq_nil_of_length_eq_zero (by simpa using h0)
  have H0:=hd_ (zc2 (w:=w) (zby h0));clear h0;go_enter func111,ntmps111;go_wp2_with fail;go_ret2;exact H0.out
 ·obtain⟨c,t,hd,hc⟩:=z19 h0;have hne:s.toList.isEmpty=false:=by rw[ByteArray.toList_eq,hd];rfl
  have hne2:¬ s.toList=[]:=by rw[ByteArray.toList_eq,hd];simp
  by_cases h42:c=42
  ·have q42:((s[0].toNat:Int) == 42)=true:=by rw[hc,h42];rfl
   have q42':((s[0].toNat:Int) != 42)=false:=by rw[hc,h42];rfl
   have HT:=hd_ (zc0 hd h42);have HN:=hd_ (fun k (h:k<s.size) (h1:1≤k) (hb:z0y s[k].toNat=false)=>zc2 (w:=w) (HT.out.trans (z7j h h1 hb)));have HY:=hd_ (fun(h:∀ k (hk:k<s.size),1≤k→z0y s[k].toNat=true)=>zc3 (w:=w) (HT.out.trans (z7k h)));clear hd hc h42;go_enter func111,ntmps111;go_wp2_with fail;clear q42 q42';go_loop [4] (fun i=>∃ k:Nat,1≤k∧k≤s.size∧i=.int .i64 k∧Hid (∀ j (hj:j<s.size),1≤j→j<k→z0y s[j].toNat=true)) (fun i=>s.size - (intOf i).toNat)
   case atStart=>exact⟨1,Nat.le_refl _,h0,rfl,fun j _ a b=>by omega⟩
   case round =>
    obtain⟨k,hk1,hk,rfl,HI⟩:=hrel;by_cases hlt:k<s.size
    ·cases hl:z0y s[k].toNat
     ·have HR:=hd_ (HN.out k hlt hk1 hl);have HL:=hd_ hl;clear HI hl;go_wp2_with fail;refine (z8y s[k] _ _ HL.out).mono ?_;rintro e w' ⟨n,rfl,hn,rfl⟩;have hn':decide (n<0)=true:=hn;clear hn;go_wp2
      go_ret2;exact HR.out
     ·have HJ:Hid (∀ j (hj:j<s.size),1≤j→j<k+1→z0y s[j].toNat=true):=hd_ (fun j hj a b=>by
       by_cases e:j=k
       ·subst e;exact hl
       ·exact HI.out j hj a (by omega))
      have HL:=hd_ hl;clear HI hl;go_wp2_with fail;refine (z8y s[k] _ _ HL.out).mono ?_;rintro e w' ⟨n,rfl,hn,rfl⟩;have hn':decide (n<0)=false:=hn;clear hn;go_wp2
      go_round
      case rel=>exact⟨k+1,by omega,by omega,by go_num,HJ.out⟩
      case measure=>simp [intOf];omega
    ·have HR:=hd_ (HY.out (fun j hj a=>HI.out j hj a (by omega)))
     clear HI;go_wp2_with fail;go_ret2;exact HR.out
  ·have q42:((s[0].toNat:Int) == 42)=false:=by
    rw[hc,beq_eq_false_iff_ne];intro h;exact h42 (UInt8.toNat.inj (show c.toNat=42 by omega))
   have q42':((s[0].toNat:Int) != 42)=true:=by
    rw[hc,bne_iff_ne];intro h;exact h42 (UInt8.toNat.inj (show c.toNat=42 by omega))
   have H0:=hd_ (zc2 (w:=w) (zbz hd h42));clear hd hc h42;go_enter func111,ntmps111;go_wp2_with fail;go_ret2;exact H0.out
theorem zc5 (s:ByteArray)(w:World)(hs:s.size≤maxLen):Calls prog 110 #[.string s] w fun e w'=>e=.returned (.bool (zbm s))∧w=w':=by
 have HS:=hd_ (zc4 s w hs);have HC:=hd_ (z8z s w hs);unfold zc1 at HS;unfold zbm;generalize z82 s=x at HS;cases hb:zbl s with
 | true =>
  rw[hb] at HS;clear hb;go_enter func110,ntmps110;go_wp2_with fail;refine HS.out.mono ?_;rintro e w' ⟨rfl,rfl⟩;go_wp2_with fail;go_ret;exact⟨rfl,rfl⟩
 | false =>
  rw[hb] at HS;clear hb;go_enter func110,ntmps110;go_wp2_with fail;refine HS.out.mono ?_;rintro e w' ⟨rfl,rfl⟩;go_wp2_with fail;refine HC.out.mono ?_;rintro e w' ⟨rfl,rfl⟩;go_wp2_with fail;go_ret;exact⟨rfl,rfl⟩
theorem hasSR (s p:ByteArray)(w:World)(b:Bool)(hz:s.size≤9223372036854775807)(h:Lib.hasSuffix s.data.toList p.data.toList=b):Calls prog 166 #[.string s,.string p] w fun e w'=>e=.returned (.bool b)∧w=w':=by
 refine (Tryz.strings_HasSuffix s p w hz).mono ?_;rintro e w' ⟨rfl,rfl⟩;exact⟨by rw[h],rfl⟩
theorem zc6 {s p:ByteArray}(h:Lib.hasSuffix s.data.toList p.data.toList=true):p.size≤s.size:=by
 have:p.data.toList <:+ s.data.toList:=List.isSuffixOf_iff_suffix.1 h;exact this.length_le
theorem zc7 (part comp:ByteArray)(w:World)(hp:part.size≤maxLen)(hs:comp.size≤maxLen):
  Calls prog 167 #[.string part,.string comp] w fun e w'=>e=.returned (.tuple #[.string (zbo part comp),.bool (zbp part comp)])∧w=w':=by
 have HS:=hd_ (zc4 part w hp);unfold zc1 at HS;cases hb:zbl part with
 | false =>
  have HV:Hid (zbo part comp=⟨#[]⟩∧zbp part comp=decide (part=comp)):=hd_ (by unfold zbo zbp;rw[hb];exact⟨rfl,rfl⟩)
  have HE:=hd_ (z86 part comp);rw[hb] at HS;clear hb;go_enter func167,ntmps167;go_wp2_with fail;refine HS.out.mono ?_;rintro e w' ⟨rfl,rfl⟩;go_wp2_with fail;go_ret2;exact⟨z87 HV.out.1.symm (by rw[HV.out.2];exact HE.out),rfl⟩
 | true =>
  rw[hb] at HS;cases hh:Lib.hasSuffix comp.data.toList (z82 part).data.toList with
  | false =>
   have HV:Hid (zbo part comp=⟨#[]⟩∧zbp part comp=false):=hd_ (by unfold zbo zbp;rw[hb,hh];exact⟨if_neg (by decide),by rw[if_pos rfl,Bool.false_and]⟩)
   have HH:=hd_ (hasSR comp (z82 part) w false (by unfold maxLen at hs;omega) hh)
   clear hb hh;simp only[if_true] at HS
   generalize z82 part=x at HS HH;go_enter func167,ntmps167;go_wp2_with fail;refine HS.out.mono ?_;rintro e w' ⟨rfl,rfl⟩;go_wp2_with fail;refine HH.out.mono ?_;rintro e w' ⟨rfl,rfl⟩;go_wp2_with fail;go_ret2;exact⟨z87 HV.out.1.symm HV.out.2.symm,rfl⟩
  | true =>
   have HV:Hid (zbo part comp=zbn part comp∧zbp part comp=z12 (zbn part comp)):=hd_ (by unfold zbo zbp;rw[hb,hh];exact⟨if_pos rfl,by rw[if_pos rfl,Bool.true_and]⟩)
   have HH:=hd_ (hasSR comp (z82 part) w true (by unfold maxLen at hs;omega) hh)
   have hle:=zc6 hh;have hCX:zbn part comp=comp.extract 0 (comp.size - (z82 part).size):=rfl;have HC:=hd_ (fun(x:ByteArray) (hx:x.size≤maxLen)=>z8z x w hx);clear hb hh;simp only[if_true] at HS
   generalize z82 part=x at HS HH hle hCX;obtain⟨n,hn⟩:∃ n,comp.size - x.size=n:=⟨_,rfl⟩;rw[hn] at hCX;have hz:((comp.size:Int) - (x.size:Int))=(n:Int):=by omega
   unfold maxLen at hp hs;have hw:IntKind.i64.wrap ((comp.size:Int) - (x.size:Int))=(n:Int):=by rw[IntKind.wrap_i64];omega
   have hnc:n≤comp.size:=by omega
   have HC2:=hd_ (HC.out (comp.extract 0 n) (by unfold maxLen;rw[ByteArray.size_extract];omega))
   rw[← hCX] at HC2;have HCX:=hd_ hCX;clear hn hle HC hCX;go_enter func167,ntmps167;go_wp2_with fail;refine HS.out.mono ?_;rintro e w' ⟨rfl,rfl⟩;go_wp2_with fail;refine HH.out.mono ?_;rintro e w' ⟨rfl,rfl⟩;go_wp2_with fail;rw[← HCX.out];refine HC2.out.mono ?_;rintro e w' ⟨rfl,rfl⟩;go_wp2_with fail;go_ret2;exact⟨z87 (by rw[HV.out.1]) HV.out.2.symm,rfl⟩
open Go.Sort (grow)
def zi5 (x:Syn)(l:ByteArray):Bool:=
 z3v x.path && decide (x.frm=l) && !(decide (x.frm=z2q) && decide (x.dst=z2q)) && (if x.dst=z2q then decide (x.num=0) else decide (1≤x.num) && z3v x.dst) && (z3t x.kind || x.kind == z3u x.frm x.dst)
theorem zi6 (s:ByteArray):(s.toList=[]∧(s.toList == (⟨#[]⟩:ByteArray).toList)=true)∨¬ s.toList=[]∧s.toList.isEmpty=false:=by
 by_cases h:s=z2q
 ·exact .inl (z40 h)
 ·exact .inr (z41 h)
theorem fits_1 (x:Syn)(l:ByteArray)(w:World)(hp:x.path.size≤140737488355328)(hd:x.dst.size≤140737488355328)(h1:z3v x.path=false):
  Calls prog 54 #[.agg #[.int .i64 x.kind,.string x.path,.int .i64 x.num,.string x.frm,.string x.dst],.string l] w fun e w'=>e=.returned (.bool (zi5 x l))∧zB w w':=by
 have hA:zB w (w.alloc (.cells #[.int .i64 x.kind,.string x.path,.int .i64 x.num,.string x.frm,.string x.dst] 50)):=(Below.refl _ _).alloc (Nat.le_refl _) _;have HB:Hid (zi5 x l=false):=hd_ (by unfold zi5;rw[h1];rfl)
 have HP:=hd_ (fun X=>z44 x.path X hp);rw[h1] at HP;clear h1;go_enter func54,ntmps54;go_wp2_with fail;refine (HP.out _).mono ?_;rintro e w1 ⟨rfl,rfl⟩;go_wp2_with fail;go_ret;exact⟨z13 HB.out.symm,hA⟩
theorem fits_2 (x:Syn)(l:ByteArray)(w:World)(hp:x.path.size≤140737488355328)(hd:x.dst.size≤140737488355328)(h1:z3v x.path=true)(h2:¬ x.frm=l):
  Calls prog 54 #[.agg #[.int .i64 x.kind,.string x.path,.int .i64 x.num,.string x.frm,.string x.dst],.string l] w fun e w'=>e=.returned (.bool (zi5 x l))∧zB w w':=by
 have hA:zB w (w.alloc (.cells #[.int .i64 x.kind,.string x.path,.int .i64 x.num,.string x.frm,.string x.dst] 50)):=(Below.refl _ _).alloc (Nat.le_refl _) _;have HB:Hid (zi5 x l=false):=hd_ (by unfold zi5;simp [h2])
 have HP:=hd_ (fun X=>z44 x.path X hp);rw[h1] at HP;have q:=z42 x.frm l;rw[decide_eq_false h2] at q;clear h1 h2;go_enter func54,ntmps54;go_wp2_with fail;refine (HP.out _).mono ?_;rintro e w1 ⟨rfl,rfl⟩;go_wp2_with fail;go_ret;exact⟨z13 HB.out.symm,hA⟩
theorem fits_3 (x:Syn)(l:ByteArray)(w:World)(hp:x.path.size≤140737488355328)(hd:x.dst.size≤140737488355328)(h1:z3v x.path=true)(h2:x.frm=l)(h3:x.frm=z2q)(h4:x.dst=z2q):
  Calls prog 54 #[.agg #[.int .i64 x.kind,.string x.path,.int .i64 x.num,.string x.frm,.string x.dst],.string l] w fun e w'=>e=.returned (.bool (zi5 x l))∧zB w w':=by
 have hA:zB w (w.alloc (.cells #[.int .i64 x.kind,.string x.path,.int .i64 x.num,.string x.frm,.string x.dst] 50)):=(Below.refl _ _).alloc (Nat.le_refl _) _;have HB:Hid (zi5 x l=false):=hd_ (by unfold zi5;simp [h3,h4])
 have HP:=hd_ (fun X=>z44 x.path X hp);rw[h1] at HP;have q:=z42 x.frm l;subst h2;clear q;obtain⟨s1,s2⟩:=z40 h3;obtain⟨t1,t2⟩:=z40 h4;clear h1 h3 h4;go_enter func54,ntmps54;go_wp2_with fail;refine (HP.out _).mono ?_;rintro e w1 ⟨rfl,rfl⟩;go_wp2_with fail;go_ret;exact⟨z13 HB.out.symm,hA⟩
theorem fits_4 (x:Syn)(l:ByteArray)(w:World)(hp:x.path.size≤140737488355328)(hd:x.dst.size≤140737488355328)(h1:z3v x.path=true)(h2:x.frm=l)(h3:¬ x.frm=z2q)(h4:x.dst=z2q)(h5:¬ x.num=0):
  Calls prog 54 #[.agg #[.int .i64 x.kind,.string x.path,.int .i64 x.num,.string x.frm,.string x.dst],.string l] w fun e w'=>e=.returned (.bool (zi5 x l))∧zB w w':=by
 have hA:zB w (w.alloc (.cells #[.int .i64 x.kind,.string x.path,.int .i64 x.num,.string x.frm,.string x.dst] 50)):=(Below.refl _ _).alloc (Nat.le_refl _) _;have HB:Hid (zi5 x l=false):=hd_ (by unfold zi5;simp [h4,h5])
 have HP:=hd_ (fun X=>z44 x.path X hp);rw[h1] at HP;have q:=z42 x.frm l;subst h2;clear q;obtain⟨s1,s2⟩:=z41 h3;obtain⟨t1,t2⟩:=z40 h4;have n1:(x.num != 0)=true:=bne_iff_ne.2 h5;clear h1 h3 h4 h5;go_enter func54,ntmps54;go_wp2_with fail;refine (HP.out _).mono ?_;rintro e w1 ⟨rfl,rfl⟩;go_wp2_with fail;go_ret;exact⟨z13 HB.out.symm,hA⟩
theorem fits_5 (x:Syn)(l:ByteArray)(w:World)(hp:x.path.size≤140737488355328)(hd:x.dst.size≤140737488355328)(h1:z3v x.path=true)(h2:x.frm=l)(h3:¬ x.frm=z2q)(h4:x.dst=z2q)(h5:x.num=0)(b:Bool)(h7:z3t x.kind=b):
  Calls prog 54 #[.agg #[.int .i64 x.kind,.string x.path,.int .i64 x.num,.string x.frm,.string x.dst],.string l] w fun e w'=>e=.returned (.bool (zi5 x l))∧zB w w':=by
 have hA:zB w (w.alloc (.cells #[.int .i64 x.kind,.string x.path,.int .i64 x.num,.string x.frm,.string x.dst] 50)):=(Below.refl _ _).alloc (Nat.le_refl _) _;have HB:Hid (zi5 x l=(b || (x.kind == z3u x.frm x.dst))):=hd_ (by unfold zi5;rw[h1,h7,decide_eq_true h2,decide_eq_false h3,if_pos h4,decide_eq_true h5];rfl)
 have HP:=hd_ (fun X=>z44 x.path X hp);rw[h1] at HP;have HS:=hd_ (fun X=>z3z x X);rw[h7] at HS;have HK:=hd_ (fun X=>z43 x X);have q:=z42 x.frm l;subst h2;clear q;obtain⟨s1,s2⟩:=z41 h3;cases b
 all_goals
  obtain⟨t1,t2⟩:=z40 h4;have n1:(x.num != 0)=false:=by rw[h5];rfl
  clear h1 h3 h4 h5 h7;go_enter func54,ntmps54;go_wp2_with fail;refine (HP.out _).mono ?_;rintro e w1 ⟨rfl,rfl⟩;go_wp2_with fail;have cS:∀ d os,Calls prog 90 #[.agg #[.int .i64 x.kind,.string x.path,.int .i64 x.num,.string x.frm,.string x.dst]] (grow (redrawn (w.alloc (.cells #[.int .i64 x.kind,.string x.path,.int .i64 x.num,.string x.frm,.string x.dst] 50)) d) os) fun e w''=>e=.returned (.bool _)∧∃ p:Regrown,w''=grow (redrawn (w.alloc (.cells #[.int .i64 x.kind,.string x.path,.int .i64 x.num,.string x.frm,.string x.dst] 50)) p.d) p.os:=fun d os=>Calls.regrown_of (by have hh:=HS.out (grow (redrawn (w.alloc (.cells #[.int .i64 x.kind,.string x.path,.int .i64 x.num,.string x.frm,.string x.dst] 50)) d) os);exact hh)
  have cK:∀ d os,Calls prog 46 #[.agg #[.int .i64 x.kind,.string x.path,.int .i64 x.num,.string x.frm,.string x.dst]] (grow (redrawn (w.alloc (.cells #[.int .i64 x.kind,.string x.path,.int .i64 x.num,.string x.frm,.string x.dst] 50)) d) os) fun e w''=>e=.returned (.int .i64 (z3u x.frm x.dst))∧∃ p:Regrown,w''=grow (redrawn (w.alloc (.cells #[.int .i64 x.kind,.string x.path,.int .i64 x.num,.string x.frm,.string x.dst] 50)) p.d) p.os:=fun d os=>Calls.regrown_of (by have hh:=HK.out (grow (redrawn (w.alloc (.cells #[.int .i64 x.kind,.string x.path,.int .i64 x.num,.string x.frm,.string x.dst] 50)) d) os);exact hh)
  have bx:=z3w (x:=x) (z0l w [.int .i64 x.kind,.string x.path,.int .i64 x.num,.string x.frm,.string x.dst] 50);obtain⟨c0,c1,c2,c3,c4⟩:=bx;have m0:=cell_regrown c0;have m1:=cell_regrown c1;have m2:=cell_regrown c2;have m3:=cell_regrown c3;have m4:=cell_regrown c4;clear c0 c1 c2 c3 c4;refine wp_region_quiet_below (by kernel_rfl) (by kernel_rfl) ?_
  repeat (first | go_big_quiet_step (first | exact cS _ _ | exact cK _ _) | quiet_step (first | exact cS _ _ | exact cK _ _))
  refine wpQuiet_nil ?_;intro _ hw9;obtain⟨⟨dq,osq⟩,hw9⟩:=hw9;subst hw9;have hA:=z0q hA hA.size (below_regrown _ dq osq);go_wp2_with fail;go_ret;exact⟨z13 HB.out.symm,hA⟩
theorem fits_7 (x:Syn)(l:ByteArray)(w:World)(hp:x.path.size≤140737488355328)(hd:x.dst.size≤140737488355328)(h1:z3v x.path=true)(h2:x.frm=l)(h4:¬ x.dst=z2q)(h5:¬ 1≤x.num):
  Calls prog 54 #[.agg #[.int .i64 x.kind,.string x.path,.int .i64 x.num,.string x.frm,.string x.dst],.string l] w fun e w'=>e=.returned (.bool (zi5 x l))∧zB w w':=by
 have hA:zB w (w.alloc (.cells #[.int .i64 x.kind,.string x.path,.int .i64 x.num,.string x.frm,.string x.dst] 50)):=(Below.refl _ _).alloc (Nat.le_refl _) _;have HB:Hid (zi5 x l=false):=hd_ (by unfold zi5;simp [h4,h5])
 have HP:=hd_ (fun X=>z44 x.path X hp);rw[h1] at HP;have q:=z42 x.frm l;subst h2;clear q;rcases zi6 x.frm with⟨s1,s2⟩ | ⟨s1,s2⟩
 all_goals
  obtain⟨t1,t2⟩:=z41 h4;have n2:decide (x.num<1)=true:=by simp;omega
  clear h1 h4 h5;go_enter func54,ntmps54;go_wp2_with fail;refine (HP.out _).mono ?_;rintro e w1 ⟨rfl,rfl⟩;go_wp2_with fail;go_ret;exact⟨z13 HB.out.symm,hA⟩
theorem fits_8 (x:Syn)(l:ByteArray)(w:World)(hp:x.path.size≤140737488355328)(hd:x.dst.size≤140737488355328)(h1:z3v x.path=true)(h2:x.frm=l)(h4:¬ x.dst=z2q)(h5:1≤x.num)(h6:z3v x.dst=false):
  Calls prog 54 #[.agg #[.int .i64 x.kind,.string x.path,.int .i64 x.num,.string x.frm,.string x.dst],.string l] w fun e w'=>e=.returned (.bool (zi5 x l))∧zB w w':=by
 have hA:zB w (w.alloc (.cells #[.int .i64 x.kind,.string x.path,.int .i64 x.num,.string x.frm,.string x.dst] 50)):=(Below.refl _ _).alloc (Nat.le_refl _) _;have HB:Hid (zi5 x l=false):=hd_ (by unfold zi5;simp [h4,h6])
 have HP:=hd_ (fun X=>z44 x.path X hp);rw[h1] at HP;have HD:=hd_ (fun X=>z44 x.dst X hd);rw[h6] at HD;have q:=z42 x.frm l;subst h2;clear q;rcases zi6 x.frm with⟨s1,s2⟩ | ⟨s1,s2⟩
 all_goals
  obtain⟨t1,t2⟩:=z41 h4;have n2:decide (x.num<1)=false:=by simp;omega
  clear h1 h4 h5 h6;go_enter func54,ntmps54;go_wp2_with fail;refine (HP.out _).mono ?_;rintro e w1 ⟨rfl,rfl⟩;go_wp2_with fail;refine (HD.out _).mono ?_;rintro e w1 ⟨rfl,rfl⟩;go_wp2_with fail;go_ret;exact⟨z13 HB.out.symm,hA⟩
theorem fits_9 (x:Syn)(l:ByteArray)(w:World)(hp:x.path.size≤140737488355328)(hd:x.dst.size≤140737488355328)(h1:z3v x.path=true)(h2:x.frm=l)(h4:¬ x.dst=z2q)(h5:1≤x.num)(h6:z3v x.dst=true)(b:Bool)(h7:z3t x.kind=b):
  Calls prog 54 #[.agg #[.int .i64 x.kind,.string x.path,.int .i64 x.num,.string x.frm,.string x.dst],.string l] w fun e w'=>e=.returned (.bool (zi5 x l))∧zB w w':=by
 have hA:zB w (w.alloc (.cells #[.int .i64 x.kind,.string x.path,.int .i64 x.num,.string x.frm,.string x.dst] 50)):=(Below.refl _ _).alloc (Nat.le_refl _) _;have HB:Hid (zi5 x l=(b || (x.kind == z3u x.frm x.dst))):=hd_ (by unfold zi5;rw[h1,h7,decide_eq_true h2,decide_eq_false h4,if_neg h4,decide_eq_true h5,h6,Bool.and_false];rfl)
 have HP:=hd_ (fun X=>z44 x.path X hp);rw[h1] at HP;have HD:=hd_ (fun X=>z44 x.dst X hd);rw[h6] at HD;have HS:=hd_ (fun X=>z3z x X);rw[h7] at HS;have HK:=hd_ (fun X=>z43 x X);have q:=z42 x.frm l;subst h2;clear q;rcases zi6 x.frm with⟨s1,s2⟩ | ⟨s1,s2⟩
 all_goals
  cases b
  all_goals
   obtain⟨t1,t2⟩:=z41 h4;have n2:decide (x.num<1)=false:=by simp;omega
   clear h1 h4 h5 h6 h7;go_enter func54,ntmps54;go_wp2_with fail;refine (HP.out _).mono ?_;rintro e w1 ⟨rfl,rfl⟩;go_wp2_with fail;refine (HD.out _).mono ?_;rintro e w1 ⟨rfl,rfl⟩;go_wp2_with fail;have cS:∀ d os,Calls prog 90 #[.agg #[.int .i64 x.kind,.string x.path,.int .i64 x.num,.string x.frm,.string x.dst]] (grow (redrawn (w.alloc (.cells #[.int .i64 x.kind,.string x.path,.int .i64 x.num,.string x.frm,.string x.dst] 50)) d) os) fun e w''=>e=.returned (.bool _)∧∃ p:Regrown,w''=grow (redrawn (w.alloc (.cells #[.int .i64 x.kind,.string x.path,.int .i64 x.num,.string x.frm,.string x.dst] 50)) p.d) p.os:=fun d os=>Calls.regrown_of (by have hh:=HS.out (grow (redrawn (w.alloc (.cells #[.int .i64 x.kind,.string x.path,.int .i64 x.num,.string x.frm,.string x.dst] 50)) d) os);exact hh)
   have cK:∀ d os,Calls prog 46 #[.agg #[.int .i64 x.kind,.string x.path,.int .i64 x.num,.string x.frm,.string x.dst]] (grow (redrawn (w.alloc (.cells #[.int .i64 x.kind,.string x.path,.int .i64 x.num,.string x.frm,.string x.dst] 50)) d) os) fun e w''=>e=.returned (.int .i64 (z3u x.frm x.dst))∧∃ p:Regrown,w''=grow (redrawn (w.alloc (.cells #[.int .i64 x.kind,.string x.path,.int .i64 x.num,.string x.frm,.string x.dst] 50)) p.d) p.os:=fun d os=>Calls.regrown_of (by have hh:=HK.out (grow (redrawn (w.alloc (.cells #[.int .i64 x.kind,.string x.path,.int .i64 x.num,.string x.frm,.string x.dst] 50)) d) os);exact hh)
   have bx:=z3w (x:=x) (z0l w [.int .i64 x.kind,.string x.path,.int .i64 x.num,.string x.frm,.string x.dst] 50);obtain⟨c0,c1,c2,c3,c4⟩:=bx;have m0:=cell_regrown c0;have m1:=cell_regrown c1;have m2:=cell_regrown c2;have m3:=cell_regrown c3;have m4:=cell_regrown c4;clear c0 c1 c2 c3 c4;refine wp_region_quiet_below (by kernel_rfl) (by kernel_rfl) ?_
   repeat (first | go_big_quiet_step (first | exact cS _ _ | exact cK _ _) | quiet_step (first | exact cS _ _ | exact cK _ _))
   refine wpQuiet_nil ?_;intro _ hw9;obtain⟨⟨dq,osq⟩,hw9⟩:=hw9;subst hw9;have hA:=z0q hA hA.size (below_regrown _ dq osq);go_wp2_with fail;go_ret;exact⟨z13 HB.out.symm,hA⟩
theorem zi7 (x:Syn)(l:ByteArray)(w:World)(hp:x.path.size≤140737488355328)(hd:x.dst.size≤140737488355328):
  Calls prog 54 #[.agg #[.int .i64 x.kind,.string x.path,.int .i64 x.num,.string x.frm,.string x.dst],.string l] w fun e w'=>e=.returned (.bool (zi5 x l))∧zB w w':=by
 cases h1:z3v x.path
 ·exact fits_1 x l w hp hd h1
 by_cases h2:x.frm=l
 rotate_left
 ·exact fits_2 x l w hp hd h1 h2
 by_cases h4:x.dst=z2q
 ·by_cases h3:x.frm=z2q
  ·exact fits_3 x l w hp hd h1 h2 h3 h4
  by_cases h5:x.num=0
  ·exact fits_5 x l w hp hd h1 h2 h3 h4 h5 _ rfl
  ·exact fits_4 x l w hp hd h1 h2 h3 h4 h5
 by_cases h5:1≤x.num
 ·cases h6:z3v x.dst
  ·exact fits_8 x l w hp hd h1 h2 h4 h5 h6
  ·exact fits_9 x l w hp hd h1 h2 h4 h5 h6 _ rfl
 ·exact fits_7 x l w hp hd h1 h2 h4 h5
