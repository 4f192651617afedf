/- A part. -/
import Derived.Test.YtlnjaagijaadmaaGreatDoorMvw6
import Derived.Test.YtlnjaagijaadmaaGreatDoorMvw5
set_option linter.unusedVariables false
set_option linter.unusedSimpArgs false
set_option maxHeartbeats 2000000
set_option maxRecDepth 100000
namespace Go.Proofs.YtlnjaagijaadmaaGreatDoor
open Go.Proofs.Tryz
open Go.RowKit
def zax (s:zA):Bool:=z8r s && z8s s
def zay (s:zA):Bool:=zax s || z0z s
def zaz (part comp:zA):zA:=comp.extract 0 (comp.size - (za5 part).size)
def zb0 (part comp:zA):zA:=if zax part && Lib.hasSuffix comp.data.toList (za5 part).data.toList then zaz part comp else z2r
def zb1 (part comp:zA):Bool:=if zax part then Lib.hasSuffix comp.data.toList (za5 part).data.toList && z0z (zaz part comp) else decide (part=comp)
theorem zb2 {s:zA}{c:UInt8}{t:List UInt8}(hd:s.data.toList=c :: t):z8r s=decide (c=42):=by
 unfold z8r Lib.hasPrefix;rw[hd];by_cases h:c=42
 ·subst h;simp
 ·have:¬(42:UInt8)=c:=fun e=>h e.symm;simp [h,this,List.isPrefixOf]
theorem zb3 {s:zA}(h:z8r s=true):z0z s=false:=by
 have h1:=za8 h;obtain⟨c,t,hd,-⟩:=z18 (show 0<s.size by omega)
 rw[zb2 hd] at h;have hc:c=42:=of_decide_eq_true h;unfold z0z z0y;rw[hd,hc];have h2:z0x 42=false:=by decide
 simp [h2]
theorem zb4 {s:zA}(h:z8t s≠0):zax s=z8r s:=by
 unfold zax;cases hs:z8r s with
 | false=>rfl
 | true =>
  unfold z8t at h;rw[zb3 hs,hs] at h;cases ht:z8s s with
  | true=>rfl
  | false=>rw[ht] at h;exact absurd rfl h
theorem zb5 (s:zA):decide (z8t s≠0)=zay s:=by
 unfold zay zax z8t;cases z0z s <;> cases z8r s <;> cases z8s s <;> rfl
theorem zb6 (s:zA):z8u 0 s=z0z s:=by
 unfold z8u z8t;cases hc:z0z s
 ·cases z8r s <;> cases z8s s <;> rfl
 ·rfl
theorem zb7 {l:List UInt8}(h:z0y l=true)(n:Nat):z0y (l.take n)=!(l.take n).isEmpty:=by
 unfold z0y at h |-
 cases l with
 | nil=>simp at h
 | cons a l =>
  cases n with
  | zero=>rfl
  | succ n =>
   simp only[List.take_succ_cons,List.isEmpty_cons,List.head?_cons,List.all_cons,Bool.not_false,Bool.true_and,Zw] at h |-
   obtain⟨h1,h2,h3⟩:=h;refine⟨h1,h2,?_⟩;rw[ZB] at h3 |-;exact fun x hx=>h3 x (List.mem_of_mem_take hx)
theorem zb8 (part comp:zA):(zaz part comp).data.toList=comp.data.toList.take (comp.data.toList.length - (za5 part).data.toList.length):=by
 unfold zaz;have h1:comp.size=comp.data.toList.length:=rfl;have h2:(za5 part).size=(za5 part).data.toList.length:=rfl;rw[h1,h2,ByteArray.data_extract,Array.toList_extract];simp [List.extract]
theorem zb9 {part comp:zA}(hp:z8t part≠0)(hc:z0z comp=true):zb1 part comp=za7 part comp:=by
 unfold zb1 za7;rw[zb4 hp];cases hs:z8r part with
 | false=>simp only[Bool.false_eq_true,if_false]
 | true =>
  simp only[if_true]
  cases hh:Lib.hasSuffix comp.data.toList (za5 part).data.toList with
  | false=>simp only[Bool.false_and]
  | true =>
   simp only[Bool.true_and]
   have hv:za6 part comp=zaz part comp:=by
    unfold za6;rw[hs,if_pos rfl];unfold Lib.trimSuffix;rw[hh,if_pos rfl,<- zb8]
   rw[hv];unfold z0z at hc |-
   rw[zb8,zb7 hc,<- zb8];have he:(zaz part comp).data.toList.isEmpty=decide (zaz part comp=z2r):=by
    rw[ZY,decide_eq_true_eq,List.isEmpty_iff];constructor
    ·intro h;cases hx:zaz part comp with | mk a =>
     rw[hx] at h;unfold z2r;congr 1
     exact Array.toList_eq_nil_iff.1 h
    ·intro h;rw[h];rfl
   rw[he]
theorem zba {s:zA}(h:s.size=0):zax s=false:=by
 have hl:s.data.toList=[]:=Zt (by simpa using h)
 unfold zax z8r;rw[hl];rfl
theorem zbb {s:zA}{c:UInt8}{t:List UInt8}(hd:s.data.toList=c :: t)(hc:¬ c=42):zax s=false:=by
 unfold zax;rw[zb2 hd,decide_eq_false hc];rfl
theorem zbc {s:zA}{c:UInt8}{t:List UInt8}(hd:s.data.toList=c :: t)(hc:c=42):zax s=z8s s:=by
 unfold zax;rw[zb2 hd,decide_eq_true hc];rfl
def zbd (s:zA)(w:zW)(e:Ending)(w':zW):Prop:=e=.returned (.tuple #[zS (if zax s then za5 s else z2r),.bool (zax s)])/\w=w'
theorem zbe {s:zA}{w:zW}(h:zax s=false):zbd s w (.returned (.tuple #[zS ⟨#[]⟩,.bool false])) w:=by unfold zbd;rw[h];exact⟨rfl,rfl⟩
theorem zbf {s:zA}{w:zW}(h:zax s=true):zbd s w (.returned (.tuple #[zS (s.extract 1 s.size),.bool true])) w:=by unfold zbd;rw[h];exact⟨rfl,rfl⟩
theorem zbg (s:zA)(w:zW)(hs:s.size<=maxLen):Calls prog 85 #[zS s] w (zbd s w):=by
 unfold maxLen at hs;rcases ZU s.size with h0 | h0
 ·have hne:s.toList=[]:=by rw[ByteArray.toList_eq];exact Zt (by simpa using h0)
  have H0:=hd_ (zbe (w:=w) (zba h0));clear h0;go_enter func85,ntmps85;go_wp2_with fail;go_ret2;exact H0
 ·obtain⟨c,t,hd,hc⟩:=z18 h0;have hne:s.toList.isEmpty=false:=by rw[ByteArray.toList_eq,hd];rfl
  have hne2:¬ s.toList=[]:=by rw[ByteArray.toList_eq,hd];simp
  by_cases h42:c=42
  ·have q42:((s[0].toNat:Int) == 42)=true:=by rw[hc,h42];rfl
   have q42':((s[0].toNat:Int) != 42)=false:=by rw[hc,h42];rfl
   have HT:=hd_ (zbc hd h42);have HN:=hd_ (fun k (h:k<s.size) (h1:1<=k) (hb:z0x s[k].toNat=false)=>zbe (w:=w) (HT.trans (z8z h h1 hb)));have HY:=hd_ (fun(h:∀ k (hk:k<s.size),1<=k->z0x s[k].toNat=true)=>zbf (w:=w) (HT.trans (z90 h)));clear hd hc h42;go_enter func85,ntmps85;go_wp2_with fail;clear q42 q42';go_loop [4] (fun i=>∃ k:Nat,1<=k/\k<=s.size/\i=zI k/\Hid (∀ j (hj:j<s.size),1<=j->j<k->z0x s[j].toNat=true)) (fun i=>s.size - (intOf i).toNat)
   exact⟨1,Zd _,h0,rfl,fun j _ a b=>by omega⟩
   obtain⟨k,hk1,hk,rfl,HI⟩:=hrel;by_cases hlt:k<s.size
   ·cases hl:z0x s[k].toNat
    ·have HR:=hd_ (HN k hlt hk1 hl);have HL:=hd_ hl;clear HI hl;go_wp2_with fail;refine (z9s s[k] _ _ HL).mono ?_;rintro e w' ⟨n,rfl,hn,rfl⟩;have hn':decide (n<0)=true:=hn;clear hn;go_wp2
     go_ret2;exact HR
    ·have HJ:Hid (∀ j (hj:j<s.size),1<=j->j<k+1->z0x s[j].toNat=true):=hd_ (fun j hj a b=>by
      by_cases e:j=k
      ·subst e;exact hl
      ·exact HI j hj a (by omega))
     have HL:=hd_ hl;clear HI hl;go_wp2_with fail;refine (z9s s[k] _ _ HL).mono ?_;rintro e w' ⟨n,rfl,hn,rfl⟩;have hn':decide (n<0)=false:=hn;clear hn;go_wp2
     go_round
     exact⟨k+1,by omega,by omega,by go_num,HJ⟩
     simp [intOf];omega
   ·have HR:=hd_ (HY (fun j hj a=>HI j hj a (by omega)))
    clear HI;go_wp2_with fail;go_ret2;exact HR
  ·have q42:((s[0].toNat:Int) == 42)=false:=by
    rw[hc,beq_eq_false_iff_ne];intro h;exact h42 (UInt8.toNat.inj (show c.toNat=42 by omega))
   have q42':((s[0].toNat:Int) != 42)=true:=by
    rw[hc,bne_iff_ne];intro h;exact h42 (UInt8.toNat.inj (show c.toNat=42 by omega))
   have H0:=hd_ (zbe (w:=w) (zbb hd h42));clear hd hc h42;go_enter func85,ntmps85;go_wp2_with fail;go_ret2;exact H0
theorem zbh (s:zA)(w:zW)(hs:s.size<=maxLen):Calls prog 84 #[zS s] w fun e w'=>e=.returned (.bool (zay s))/\w=w':=by
 have HS:=hd_ (zbg s w hs);have HC:=hd_ (z9t s w hs);unfold zbd at HS;unfold zay;generalize za5 s=x at HS;cases hb:zax s with
 | true =>
  rw[hb] at HS;clear hb;go_enter func84,ntmps84;go_wp2_with fail;refine HS.mono ?_;rintro e w' ⟨rfl,rfl⟩;go_wp2_with fail;go_ret;exact⟨rfl,rfl⟩
 | false =>
  rw[hb] at HS;clear hb;go_enter func84,ntmps84;go_wp2_with fail;refine HS.mono ?_;rintro e w' ⟨rfl,rfl⟩;go_wp2_with fail;refine HC.mono ?_;rintro e w' ⟨rfl,rfl⟩;go_wp2_with fail;go_ret;exact⟨rfl,rfl⟩
theorem zbi (s p:zA)(w:zW)(b:Bool)(hz:s.size<=9223372036854775807)(h:Lib.hasSuffix s.data.toList p.data.toList=b):Calls prog 139 #[zS s,zS p] w fun e w'=>e=.returned (.bool b)/\w=w':=by
 refine (Tryz.strings_HasSuffix s p w hz).mono ?_;rintro e w' ⟨rfl,rfl⟩;exact⟨by rw[h],rfl⟩
theorem zbj {s p:zA}(h:Lib.hasSuffix s.data.toList p.data.toList=true):p.size<=s.size:=by
 have:p.data.toList <:+ s.data.toList:=List.isSuffixOf_iff_suffix.1 h;exact this.length_le
theorem zbk (part comp:zA)(w:zW)(hp:part.size<=maxLen)(hs:comp.size<=maxLen):
  Calls prog 140 #[zS part,zS comp] w fun e w'=>e=.returned (.tuple #[zS (zb0 part comp),.bool (zb1 part comp)])/\w=w':=by
 have HS:=hd_ (zbg part w hp);unfold zbd at HS;cases hb:zax part with
 | false =>
  have HV:Hid (zb0 part comp=⟨#[]⟩/\zb1 part comp=decide (part=comp)):=hd_ (by unfold zb0 zb1;rw[hb];exact⟨rfl,rfl⟩)
  have HE:=hd_ (za9 part comp);rw[hb] at HS;clear hb;go_enter func140,ntmps140;go_wp2_with fail;refine HS.mono ?_;rintro e w' ⟨rfl,rfl⟩;go_wp2_with fail;go_ret2;exact⟨zaa HV.1.symm (by rw[HV.out.2];exact HE),rfl⟩
 | true =>
  rw[hb] at HS;cases hh:Lib.hasSuffix comp.data.toList (za5 part).data.toList with
  | false =>
   have HV:Hid (zb0 part comp=⟨#[]⟩/\zb1 part comp=false):=hd_ (by unfold zb0 zb1;rw[hb,hh];exact⟨if_neg (by decide),by rw[if_pos rfl,Bool.false_and]⟩)
   have HH:=hd_ (zbi comp (za5 part) w false (by unfold maxLen at hs;omega) hh)
   clear hb hh;simp only[if_true] at HS
   generalize za5 part=x at HS HH;go_enter func140,ntmps140;go_wp2_with fail;refine HS.mono ?_;rintro e w' ⟨rfl,rfl⟩;go_wp2_with fail;refine HH.mono ?_;rintro e w' ⟨rfl,rfl⟩;go_wp2_with fail;go_ret2;exact⟨zaa HV.1.symm HV.2.symm,rfl⟩
  | true =>
   have HV:Hid (zb0 part comp=zaz part comp/\zb1 part comp=z0z (zaz part comp)):=hd_ (by unfold zb0 zb1;rw[hb,hh];exact⟨if_pos rfl,by rw[if_pos rfl,Bool.true_and]⟩)
   have HH:=hd_ (zbi comp (za5 part) w true (by unfold maxLen at hs;omega) hh)
   have hle:=zbj hh;have hCX:zaz part comp=comp.extract 0 (comp.size - (za5 part).size):=rfl;have HC:=hd_ (fun(x:zA) (hx:x.size<=maxLen)=>z9t x w hx);clear hb hh;simp only[if_true] at HS
   generalize za5 part=x at HS HH hle hCX;obtain⟨n,hn⟩:∃ n,comp.size - x.size=n:=⟨_,rfl⟩;rw[hn] at hCX;have hz:((comp.size:Int) - (x.size:Int))=(n:Int):=by omega
   unfold maxLen at hp hs;have hw:IntKind.i64.wrap ((comp.size:Int) - (x.size:Int))=(n:Int):=by rw[IntKind.wrap_i64];omega
   have hnc:n<=comp.size:=by omega
   have HC2:=hd_ (HC (comp.extract 0 n) (by unfold maxLen;rw[ByteArray.size_extract];omega))
   rw[<- hCX] at HC2;have HCX:=hd_ hCX;clear hn hle HC hCX;go_enter func140,ntmps140;go_wp2_with fail;refine HS.mono ?_;rintro e w' ⟨rfl,rfl⟩;go_wp2_with fail;refine HH.mono ?_;rintro e w' ⟨rfl,rfl⟩;go_wp2_with fail;rw[<- HCX.out];refine HC2.mono ?_;rintro e w' ⟨rfl,rfl⟩;go_wp2_with fail;go_ret2;exact⟨zaa (by rw[HV.out.1]) HV.2.symm,rfl⟩
def zbl (a b:zA):Bool:=if a=b then true else if z8r b then (if z8r a then Lib.hasSuffix (za5 a).data.toList (za5 b).data.toList else za7 b a) else false
def zbm (a b:zA):Option zA:=if zbl a b then some a else if zbl b a then some b else none
theorem zbn (a b:zA)(w:zW)(ha:a.size<=30000000)(hb:b.size<=30000000):
  Calls prog 192 #[zS a,zS b] w fun e w'=>e=.returned (.bool (zbl a b))/\zB w w':=by
 have HA:=hd_ (fun X=>z92 a X);have HB:=hd_ (fun X=>z92 b X);have HM:=hd_ (fun X=>zab b a X (by omega) (by omega))
 have HX:=hd_ (fun X=>zbi (a.extract 1 a.size) (b.extract 1 b.size) X _ (by rw[ByteArray.size_extract];omega) rfl)
 have HW:Hid (zbl a b=if a=b then true else if z8r b then (if z8r a then Lib.hasSuffix (za5 a).data.toList (za5 b).data.toList else za7 b a) else false):=hd_ rfl;have HSA:Hid (z8r a=true->1<=a.size):=hd_ za8;have HSB:Hid (z8r b=true->1<=b.size):=hd_ za8;generalize hwb:zbl a b=r at HW |-;clear hwb;by_cases he:a=b
 ·have q:(a.toList == b.toList)=true:=by rw[za9];simpa using he
  have HR:Hid (r=true):=hd_ (by rw[HW.out,if_pos he])
  clear he HW HX HM;go_enter func192,ntmps192;go_wp2_with fail;go_ret;exact⟨by rw[HR.out];rfl,Zb _ _⟩
 have q:(a.toList == b.toList)=false:=by rw[za9];simpa using he
 rw[if_neg he] at HW;clear he;generalize z8r b=sb at HB HW HSB;cases sb with
 | false =>
  have HR:Hid (r=false):=hd_ (by rw[HW.out];rfl)
  clear HW HX HM;go_enter func192,ntmps192;go_wp2_with (go_at_call 110;refine (HB _).mono ?_;rintro e w' ⟨rfl,rfl⟩)
  go_ret;exact⟨by rw[HR.out];rfl,Zb _ _⟩
 | true =>
  rw[if_pos rfl] at HW;generalize z8r a=sa at HA HW HSA;cases sa with
  | false =>
   have HR:Hid (r=za7 b a):=hd_ (by rw[HW.out];rfl)
   clear HW HX;generalize za7 b a=y at HM HR;generalize za6 b a=x at HM;go_enter func192,ntmps192;go_wp2_with (first
    | (go_at_call 110;refine (HB _).mono ?_;rintro e w' ⟨rfl,rfl⟩)
    | (go_at_call 110;refine (HA _).mono ?_;rintro e w' ⟨rfl,rfl⟩)
    | (go_at_call 109;refine (HM _).mono ?_;rintro e w' ⟨rfl,rfl⟩))
   go_ret;exact⟨by rw[HR.out];rfl,Zb _ _⟩
  | true =>
   have HR:Hid (r=Lib.hasSuffix (a.extract 1 a.size).data.toList (b.extract 1 b.size).data.toList):=hd_ (by rw[HW.out];rfl)
   have la:(1:Int)<=(a.size:Int):=by have:=HSA.out rfl;omega
   have lb:(1:Int)<=(b.size:Int):=by have:=HSB.out rfl;omega
   have za:a.size<=30000000:=ha;have zb:b.size<=30000000:=hb;clear HW HM;generalize Lib.hasSuffix (a.extract 1 a.size).data.toList (b.extract 1 b.size).data.toList=y at HX HR;go_enter func192,ntmps192;go_wp2_with (first
    | (go_at_call 110;refine (HB _).mono ?_;rintro e w' ⟨rfl,rfl⟩)
    | (go_at_call 110;refine (HA _).mono ?_;rintro e w' ⟨rfl,rfl⟩))
   go_region_law (go_simp;go_at_call 139;refine (HX _).mono ?_;rintro e w' ⟨rfl,rfl⟩)
   go_wp2_with fail;go_ret;exact⟨by rw[HR.out];rfl,by repeat (first | exact Zb _ _ | with_reducible refine Below.drew ?_)⟩
theorem zbo (a b:zA)(w:zW)(ha:a.size<=30000000)(hb:b.size<=30000000):
  Calls prog 146 #[zS a,zS b] w fun e w'=>e=.returned (.tuple #[zS ((zbm a b).getD ⟨#[]⟩),.bool (zbm a b).isSome])/\zB w w':=by
 have H1:=hd_ (fun X=>zbn a b X ha hb);have H2:=hd_ (fun X=>zbn b a X hb ha);have HM:Hid (zbm a b=if zbl a b then some a else if zbl b a then some b else none):=hd_ rfl;generalize zbm a b=m at HM |-;generalize zbl a b=x at H1 HM;generalize zbl b a=y at H2 HM;cases x with
 | true =>
  rw[show m=some a from HM.out];clear HM;go_enter func146,ntmps146;go_wp2_with fail;refine (H1 w).mono ?_;rintro e w1 ⟨rfl,hb1⟩;go_wp2_with fail;go_ret2;exact⟨rfl,hb1⟩
 | false =>
  cases y with
  | true =>
   rw[show m=some b from HM.out];clear HM;go_enter func146,ntmps146;go_wp2_with fail;refine (H1 w).mono ?_;rintro e w1 ⟨rfl,hb1⟩;go_wp2_with fail;refine (H2 w1).mono ?_;rintro e w2 ⟨rfl,hb2⟩;go_wp2_with fail;go_ret2;exact⟨rfl,z0r hb1 hb2⟩
  | false =>
   rw[show m=none from HM.out];clear HM;go_enter func146,ntmps146;go_wp2_with fail;refine (H1 w).mono ?_;rintro e w1 ⟨rfl,hb1⟩;go_wp2_with fail;refine (H2 w1).mono ?_;rintro e w2 ⟨rfl,hb2⟩;go_wp2_with fail;go_ret2;exact⟨rfl,z0r hb1 hb2⟩
theorem zh5 {a b:List UInt8}:Lib.hasSuffix a b=true↔∃ c,a=c++b:=by
 unfold Lib.hasSuffix;rw[List.isSuffixOf_iff_suffix];constructor
 ·rintro⟨c,h⟩;exact⟨c,h.symm⟩
 ·rintro⟨c,h⟩;exact⟨c,h.symm⟩
theorem zh6 (c b:List UInt8):Lib.trimSuffix (c++b) b=c:=by
 unfold Lib.trimSuffix;rw[if_pos (zh5.2 ⟨c,rfl⟩),Zc,Nat.add_sub_cancel,List.take_left'];rfl
theorem zh7 (a:zA):(za5 a).data.toList=a.data.toList.drop 1:=by
 unfold za5;rw[ext_eq];rfl
theorem zh8 {a:zA}(h:z8r a=true):a.data.toList=42 :: (za5 a).data.toList:=by
 rw[zh7];unfold z8r at h;cases e:a.data.toList with
 | nil=>rw[e] at h;exact absurd h (by decide)
 | cons x l =>
  rw[e] at h;have:x=42:=by
   unfold Lib.hasPrefix at h;rw[List.isPrefixOf_iff_prefix] at h;obtain⟨t,ht⟩:=h;exact (List.cons.inj ht).1.symm
  rw[this];rfl
theorem zh9 {a b:zA}(ha:z8r a=true)(hb:z8r b=true)(h:(za5 a).data.toList=(za5 b).data.toList):a=b:=by
 have e:a.data.toList=b.data.toList:=by rw[zh8 ha,zh8 hb,h]
 cases a;cases b
 simp only at e
 congr 1
 exact Array.toList_inj.1 e
theorem zha (a:zA):zbl a a=true:=by unfold zbl;rw[if_pos rfl]
theorem zhb {a b:zA}(h:zbl a b=true)(hne:a≠b):z8r b=true/\(z8r a=true->Lib.hasSuffix (za5 a).data.toList (za5 b).data.toList=true)/\(z8r a=false->za7 b a=true):=by
 unfold zbl at h;rw[if_neg hne] at h;cases hb:z8r b with
 | false=>rw[hb] at h;cases h
 | true =>
  rw[hb,if_pos rfl] at h;refine⟨rfl,fun ha=>?_,fun ha=>?_⟩
  ·rw[ha,if_pos rfl] at h;exact h
  ·rw[ha,if_neg (by decide)] at h;exact h
theorem zhc {a b:zA}(hb:z8r b=true)(h1:z8r a=true->Lib.hasSuffix (za5 a).data.toList (za5 b).data.toList=true)(h2:z8r a=false->za7 b a=true):zbl a b=true:=by
 unfold zbl;split
 ·rfl
 ·cases ha:z8r a with
  | true=>rw[if_pos rfl];exact h1 ha
  | false=>rw[if_neg (by decide)];exact h2 ha
theorem zhd {b a:zA}(hb:z8r b=true):za7 b a=true↔∃ c,c≠[]/\a.data.toList=c++(za5 b).data.toList:=by
 unfold za7;rw[hb,if_pos rfl,Zw,Bool.not_eq_true',decide_eq_false_iff_not,zh5];constructor
 ·rintro⟨⟨c,h1⟩,h2⟩;refine⟨c,fun hc=>h2 ?_,h1⟩;unfold za6;rw[hb,if_pos rfl];have:Lib.trimSuffix a.data.toList (za5 b).data.toList=[]:=by
   rw[h1,zh6,hc]
  rw[this];rfl
 ·rintro⟨c,hc,h1⟩;refine⟨⟨c,h1⟩,fun h2=>hc ?_⟩;unfold za6 at h2;rw[hb,if_pos rfl,h1,zh6] at h2;have:=congrArg (fun x:zA=>x.data.toList) h2;simpa [z2r] using this
theorem zhe {a b c:zA}(h1:zbl a b=true)(h2:zbl b c=true):zbl a c=true:=by
 by_cases e1:a=b
 ·rw[e1];exact h2
 by_cases e2:b=c
 ·rw[<- e2];exact h1
 obtain⟨hb,p1,p2⟩:=zhb h1 e1;obtain⟨hc,q1,-⟩:=zhb h2 e2;obtain⟨y,hy⟩:=zh5.1 (q1 hb);refine zhc hc (fun ha=>?_) (fun ha=>?_)
 ·obtain⟨x,hx⟩:=zh5.1 (p1 ha);exact zh5.2 ⟨x++y,by rw[hx,hy,ZE]⟩
 ·obtain⟨x,hx0,hx⟩:=(zhd hb).1 (p2 ha);exact (zhd hc).2 ⟨x++y,by simp [hx0],by rw[hx,hy,ZE]⟩
theorem zhf {a b:zA}(h1:zbl a b=true)(h2:zbl b a=true):a=b:=by
 by_cases e:a=b
 ·exact e
 obtain⟨hb,p1,-⟩:=zhb h1 e;obtain⟨ha,q1,-⟩:=zhb h2 (fun h=>e h.symm);obtain⟨x,hx⟩:=zh5.1 (p1 ha);obtain⟨y,hy⟩:=zh5.1 (q1 hb);refine zh9 ha hb ?_;have hl:=congrArg List.length hx;have hl2:=congrArg List.length hy;rw[Zc] at hl hl2;have:x=[]:=Zt (by omega)
 rw[hx,this];rfl
theorem zhg {a b z:zA}(h:zbm a b=some z):zbl z a=true/\zbl z b=true/\(z=a\/z=b):=by
 unfold zbm at h;split at h
 ·rename_i hw
  cases h
  exact⟨zha _,hw,.inl rfl⟩
 ·split at h
  ·rename_i hw
   cases h
   exact⟨hw,zha _,.inr rfl⟩
  ·cases h
theorem zhh {a b:zA}(h:zbl a b=true):zbm a b=some a:=by unfold zbm;rw[if_pos h]
theorem zhi (a b:zA):zbm a b=zbm b a:=by
 unfold zbm;cases h1:zbl a b with
 | true =>
  cases h2:zbl b a with
  | true=>rw[zhf h1 h2]
  | false=>rfl
 | false =>
  cases h2:zbl b a with
  | true=>rfl
  | false=>rfl
theorem zhj {a b:zA}(h:zbl b a=true):zbm a b=some b:=by rw[zhi];exact zhh h
