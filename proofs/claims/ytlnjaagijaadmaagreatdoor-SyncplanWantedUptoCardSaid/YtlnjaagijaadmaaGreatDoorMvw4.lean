/- A part. -/
import Derived.Test.YtlnjaagijaadmaaGreatDoorMvw2
import Derived.Lib.Strings
set_option linter.unusedVariables false
set_option linter.unusedSimpArgs false
set_option maxHeartbeats 4000000
namespace Go.Proofs.YtlnjaagijaadmaaGreatDoor
open Go.Proofs.Tryz
open Go.RowKit
theorem z39 {s:zA}(h:Lib.hasPrefix s.data.toList [47,47]=true):2<=s.size:=by
 have:s.data.toList.length=s.size:=rfl;rw[<- this];cases hl:s.data.toList with
 | nil=>rw[hl] at h;cases h
 | cons a l=>cases l with
  | nil=>rw[hl] at h;unfold Lib.hasPrefix at h;simp at h
  | cons b l=>simp
theorem pre_eq (s p:zA)(h:p.size<=s.size):(s.extract 0 p.size == p)=Lib.hasPrefix s.data.toList p.data.toList:=by
 have e1:(s.extract 0 p.size).data.toList=s.data.toList.take p.size:=by rw[Lib.extract_data];simp
 rw[ZY,beq_iff_eq];unfold Lib.hasPrefix;rw[List.isPrefixOf_iff_prefix];have hpl:p.data.toList.length=p.size:=rfl;constructor
 ·intro e;have:p.data.toList=s.data.toList.take p.size:=by rw[<- e1,e]
  rw[this];exact List.take_prefix _ _
 ·intro e;have:=List.prefix_iff_eq_take.1 e;rw[hpl] at this;have h2:(s.extract 0 p.size).data.toList=p.data.toList:=by rw[e1,<- this]
  cases hs:s.extract 0 p.size with | mk x=>cases p with | mk y =>
   rw[hs] at h2;congr 1
   exact Array.toList_inj.1 h2
theorem z3a (s p:zA)(h:¬ p.size<=s.size):Lib.hasPrefix s.data.toList p.data.toList=false:=by
 unfold Lib.hasPrefix;rw[Bool.eq_false_iff];intro e;have:=(List.isPrefixOf_iff_prefix.1 e).length_le;have h1:p.data.toList.length=p.size:=rfl;have h2:s.data.toList.length=s.size:=rfl;omega
theorem hasP (s p:zA)(w:zW)(b:Bool)(h:Lib.hasPrefix s.data.toList p.data.toList=b):Calls prog 100 #[zS s,zS p] w fun e w'=>e=.returned (.bool b)/\w=w':=by
 by_cases hl:p.size<=s.size
 ·have hq:((s.extract 0 p.size).toList == p.toList)=b:=by
   rw[<- h,<- pre_eq s p hl,ByteArray.toList_eq,ByteArray.toList_eq,ZY,beq_iff_eq,beq_iff_eq];constructor
   ·intro e;cases hs:s.extract 0 p.size with | mk x=>cases p with | mk y =>
     rw[hs] at e;congr 1;exact Array.toList_inj.1 e
   ·intro e;rw[e]
  have d1:decide ((p.size:Int)<=(s.size:Int))=true:=by simp;omega
  clear h;go_enter func100,ntmps100;go_wp2
  go_ret;exact⟨rfl,rfl⟩
 ·have hb:=z3a s p hl;rw[h] at hb;subst hb;have d1:decide ((p.size:Int)<=(s.size:Int))=false:=by simp;omega
  clear h;go_enter func100,ntmps100;go_wp2
  go_ret;exact⟨rfl,rfl⟩
theorem z3b {k:IntKind}{a b:Int}(h:a=b):Ending.returned (.int k a)=.returned (.int k b):=by rw[h]
theorem z3c (b:Int)(k l x:Bool)(w:zW):
  Calls prog 211 #[.agg #[zI b,.bool k,.bool l,.bool x]] w fun e w'=>e=.returned (zI (z2q 90 (z2p b k x)))/\zB w w':=by
 by_cases h1:b=1
 ·subst h1;go_enter func211,ntmps211;go_wp2
  go_ret;exact⟨rfl,zR⟩
 ·by_cases h2:b=2
  ·subst h2;cases k
   all_goals
    go_enter func211,ntmps211;go_wp2
    go_ret;exact⟨rfl,zR⟩
  ·by_cases h3:b=3
   ·subst h3;cases k <;> cases x
    all_goals
     go_enter func211,ntmps211;go_wp2
     go_ret;exact⟨rfl,zR⟩
   ·have H:Hid (z2p b k x=false):=hd_ (by unfold z2p;simp [h1,h2,h3])
    have g1:(b == 1)=false:=by simpa using h1
    have g2:(b == 2)=false:=by simpa using h2
    have g3:(b == 3)=false:=by simpa using h3
    go_enter func211,ntmps211;go_wp2
    go_ret;exact⟨z3b (by rw[H.out];rfl),zR⟩
abbrev Comps:=List (List UInt8)
def z3d (l:List UInt8)(i b c:Nat):Prop:=
 2<=b/\b<=i/\i<=l.length+1/\∃ done:Comps,done.length=c/\done.all z0y=true /\
  ((i<=l.length/\z1e (l.drop 2)=done++z1e (l.drop b)/\(47:UInt8)∉(l.drop b).take (i - b))\/(i=l.length+1/\z1e (l.drop 2)=done))
theorem z3d.start {l:List UInt8}(h:2<=l.length):z3d l 2 2 0:=⟨by omega,by omega,by omega,[],rfl,rfl,.inl ⟨h,rfl,by simp⟩⟩
theorem z3d.next {l:List UInt8}{i b c:Nat}(h:z3d l i b c)(hi:i<l.length)(hne:l[i]≠47):z3d l (i+1) b c:=by
 obtain⟨h1,h2,h3,done,h4,h5,h6⟩:=h;refine⟨h1,by omega,by omega,done,h4,h5,?_⟩
 rcases h6 with⟨h6,h7,h8⟩ | ⟨h6,-⟩
 ·refine .inl ⟨by omega,h7,?_⟩
  rw[show i+1 - b=(i - b)+1 by omega,Zr (by rw[Zu];omega)]
  rw[Zy,not_or];refine⟨h8,?_⟩;have:(l.drop b)[i - b]'(by rw[Zu];omega)=l[i]:=by rw[List.getElem_drop];congr 1;omega
  rw[this];simpa using fun e=>hne e.symm
 ·omega
def z3e (l:List UInt8)(b i:Nat):List UInt8:=(l.drop b).take (i - b)
theorem z3d.part {l:List UInt8}{i b c:Nat}(h:z3d l i b c)(hi:i<=l.length)(hend:∀ h:i<l.length,l[i]=47):
  ∃ done:Comps,done.length=c/\done.all z0y=true/\z1e (l.drop 2)=done++z3e l b i :: (if i<l.length then z1e (l.drop (i+1)) else []):=by
 obtain⟨h1,h2,h3,done,h4,h5,h6⟩:=h;rcases h6 with⟨h6,h7,h8⟩ | ⟨h6,-⟩
 ·refine⟨done,h4,h5,?_⟩;rw[h7];congr 1
  by_cases hlt:i<l.length
  ·rw[if_pos hlt];have e:l.drop b=z3e l b i++47 :: l.drop (i+1):=by
    have hd:(l.drop b).drop (i - b)=47 :: l.drop (i+1):=by
     rw[List.drop_drop,show b+(i - b)=i by omega,Zo hlt,hend hlt]
    rw[<- hd];exact (List.take_append_drop _ _).symm
   rw[e];exact z1g h8 _
  ·rw[if_neg hlt];have e:z3e l b i=l.drop b:=by unfold z3e;rw[ZQ (by rw[Zu];omega)]
   rw[<- e];exact z1h h8
 ·omega
theorem z3d.step {l:List UInt8}{i b c:Nat}(h:z3d l i b c)(hi:i<=l.length)(hend:∀ h:i<l.length,l[i]=47)(hc:z0y (z3e l b i)=true):z3d l (i+1) (i+1) (c+1):=by
 obtain⟨done,h4,h5,h6⟩:=h.part hi hend;obtain⟨h1,h2,h3,-⟩:=h;refine⟨by omega,by omega,by omega,done++[z3e l b i],by simp [h4],by rw[List.all_append,h5];simp [hc],?_⟩
 by_cases hlt:i<l.length
 ·rw[if_pos hlt] at h6;exact .inl ⟨by omega,by rw[h6];simp,by simp⟩
 ·rw[if_neg hlt] at h6;exact .inr ⟨by omega,h6⟩
theorem z3d.bad {l:List UInt8}{i b c:Nat}(h:z3d l i b c)(hi:i<=l.length)(hend:∀ h:i<l.length,l[i]=47)(hc:z0y (z3e l b i)=false):z2x l=false:=by
 obtain⟨done,h4,h5,h6⟩:=h.part hi hend;unfold z2x z2w;rw[if_neg]
 ·rfl
 ·rintro⟨-,-,h⟩;rw[h6,List.all_append] at h;simp [hc] at h
theorem z3d.fin {l:List UInt8}{i b c:Nat}(h:z3d l i b c)(hi:¬ i<=l.length)(hp:Lib.hasPrefix l [47,47]=true):z2x l=decide (2<=c):=by
 obtain⟨h1,h2,h3,done,h4,h5,h6⟩:=h;rcases h6 with⟨h6,-⟩ | ⟨-,h6⟩
 ·omega
 ·unfold z2x z2w;rw[h6,h4];by_cases h2c:2<=c
  ·rw[if_pos ⟨hp,h2c,h5⟩];simp [h2c]
  ·rw[if_neg (fun h=>h2c h.2.1)];simp [h2c]
theorem z3f {l:List UInt8}(h:Lib.hasPrefix l [47,47]=false):z2x l=false:=by
 unfold z2x z2w;rw[if_neg (fun hh=>by rw[h] at hh;cases hh.1)];rfl
theorem z3d.count {l:List UInt8}{i b c:Nat}(h:z3d l i b c):c<=l.length+1:=by
 obtain⟨h1,h2,h3,done,h4,h5,h6⟩:=h;have hs:=z1k (l.drop 2);rw[Zu] at hs;rcases h6 with⟨-,h6,-⟩ | ⟨-,h6⟩
 ·rw[h6,Zc] at hs;omega
 ·rw[h6] at hs;omega
theorem z3g (p:zA)(b i:Nat):z0z (p.extract b i)=z0y (z3e p.data.toList b i):=by
 unfold z0z z3e;rw[Lib.extract_data]
theorem z3h (p:zA)(b i:Nat):(p.extract b i).size<=p.size:=by
 have h1:(p.extract b i).data.toList.length=(p.extract b i).size:=rfl;have h2:p.data.toList.length=p.size:=rfl;rw[<- h1,Lib.extract_data,ZK,Zu];omega
theorem z3i (p:zA)(w:zW)(hp:p.size<=140737488355328):
  Calls prog 50 #[zS p] w fun e w'=>e=.returned (.bool (z2x p.data.toList))/\w=w':=by
 cases h1:Lib.hasPrefix p.data.toList [47,47]
 ·have HV:=hd_ (z3f h1);have HP:=hd_ (hasP p ⟨#[47,47]⟩ w false h1);clear h1;go_enter func50,ntmps50;go_wp2_with fail;refine HP.mono ?_;rintro e w' ⟨rfl,rfl⟩;go_wp2_with fail;go_ret;exact⟨z12 HV.symm,rfl⟩
 ·have hsz:=z39 h1;have HP:=hd_ (hasP p ⟨#[47,47]⟩ w true h1);have HH:=hd_ h1;clear h1;have hpl:p.data.toList.length=p.size:=rfl;go_enter func50,ntmps50;go_wp2_with fail;refine HP.mono ?_;rintro e w' ⟨rfl,rfl⟩;go_wp2_with fail;go_loop [3,4,5] (fun c b i=>∃ k n m:Nat,z3d p.data.toList k n m/\i=zI k/\b=zI n/\c=zI m) (fun _ _ i=>p.size+1 - (intOf i).toNat)
  exact⟨2,2,0,z3d.start (by omega),rfl,rfl,rfl⟩
  obtain⟨k,n,m,hv,rfl,rfl,rfl⟩:=hrel;have hv1:=hv.1;have hv2:=hv.2.1;have hv3:=hv.2.2.1;have hm:m<=p.size+1:=z3d.count hv;have HV:=hd_ hv;clear hv;rw[hpl] at hv3;by_cases hk:k<=p.size
  ·have d1:decide ((k:Int)<=(p.size:Int))=true:=by simp;omega
   by_cases hlt:k<p.size
   ·have d2:decide ((k:Int)<(p.size:Int))=true:=by simp;omega
    by_cases h47:p[k]=47
    ·have q1:((p[k].toNat:Int) != 47)=false:=by rw[h47];rfl
     have q2:((p[k].toNat:Int) == 47)=true:=by rw[h47];rfl
     have hend:∀ h:k<p.data.toList.length,p.data.toList[k]=47:=fun h=>by rw[<- h47];rfl
     have HE:=hd_ hend;clear hend h47;have hes:(p.extract n k).size<=maxLen:=by have:=z3h p n k;unfold maxLen;omega
     have HC:=hd_ (z1d (p.extract n k) w hes);clear hes;cases hcc:z0y (z3e p.data.toList n k)
     ·rw[z3g,hcc] at HC;have HB:=hd_ (HV.bad (by omega) HE hcc)
      clear hcc;go_wp2_with fail;refine HC.mono ?_;rintro e w' ⟨rfl,rfl⟩;go_wp2_with fail;go_ret;exact⟨z12 HB.symm,rfl⟩
     ·rw[z3g,hcc] at HC;have HB:=hd_ (HV.step (by omega) HE hcc)
      clear hcc;go_wp2_with fail;refine HC.mono ?_;rintro e w' ⟨rfl,rfl⟩;go_wp2_with fail;go_round
      exact⟨k+1,k+1,m+1,HB,by go_num,by go_num,by go_num⟩
      simp [intOf];omega
    ·have q1:((p[k].toNat:Int) != 47)=true:=by rw[bne_iff_ne];intro h;exact h47 (UInt8.toNat.inj (show p[k].toNat=47 by omega))
     have q2:((p[k].toNat:Int) == 47)=false:=by rw[beq_eq_false_iff_ne];intro h;exact h47 (UInt8.toNat.inj (show p[k].toNat=47 by omega))
     have HN:=hd_ (HV.next (by omega) (show p.data.toList[k]'(by omega)≠47 from h47))
     clear h47;go_wp2_with fail;go_round
     exact⟨k+1,n,m,HN,by go_num,rfl,rfl⟩
     simp [intOf];omega
   ·have d2:decide ((k:Int)<(p.size:Int))=false:=by simp;omega
    have hend:∀ h:k<p.data.toList.length,p.data.toList[k]=47:=fun h=>by omega
    have HE:=hd_ hend;clear hend;have hes:(p.extract n k).size<=maxLen:=by have:=z3h p n k;unfold maxLen;omega
    have HC:=hd_ (z1d (p.extract n k) w hes);clear hes;cases hcc:z0y (z3e p.data.toList n k)
    ·rw[z3g,hcc] at HC;have HB:=hd_ (HV.bad (by omega) HE hcc)
     clear hcc;go_wp2_with fail;refine HC.mono ?_;rintro e w' ⟨rfl,rfl⟩;go_wp2_with fail;go_ret;exact⟨z12 HB.symm,rfl⟩
    ·rw[z3g,hcc] at HC;have HB:=hd_ (HV.step (by omega) HE hcc)
     clear hcc;go_wp2_with fail;refine HC.mono ?_;rintro e w' ⟨rfl,rfl⟩;go_wp2_with fail;go_round
     exact⟨k+1,k+1,m+1,HB,by go_num,by go_num,by go_num⟩
     simp [intOf];omega
  ·have d1:decide ((k:Int)<=(p.size:Int))=false:=by simp;omega
   have HF:=hd_ (HV.fin (by omega) HH)
   go_wp2_with fail;go_ret;exact⟨z12 (by rw[HF.out];simp;omega),rfl⟩
theorem z3j (a b:Int)(w:zW):Calls prog 125 #[zI a,zI b] w fun e w'=>e=.returned (zI (z35 a b))/\w=w':=by
 have n1:(a != a)=false:=by simp
 have n2:(b != b)=false:=by simp
 by_cases h1:a<b
 ·have H:Hid (z35 a b=-1):=hd_ (by unfold z35;rw[if_pos h1])
  go_enter func125,ntmps125;go_wp2
  go_ret;exact⟨z3b H.symm,rfl⟩
 ·by_cases h2:b<a
  ·have H:Hid (z35 a b=1):=hd_ (by unfold z35;rw[if_neg h1,if_pos h2])
   go_enter func125,ntmps125;go_wp2
   go_ret;exact⟨z3b H.symm,rfl⟩
  ·have H:Hid (z35 a b=0):=hd_ (by unfold z35;rw[if_neg h1,if_neg h2])
   go_enter func125,ntmps125;go_wp2
   go_ret;exact⟨z3b H.symm,rfl⟩
theorem z3k (a b:Int)(w:zW):Calls prog 161 #[.int .u8 a,.int .u8 b] w fun e w'=>e=.returned (zI (z35 a b))/\w=w':=by
 have n1:(a != a)=false:=by simp
 have n2:(b != b)=false:=by simp
 by_cases h1:a<b
 ·have H:Hid (z35 a b=-1):=hd_ (by unfold z35;rw[if_pos h1])
  go_enter func161,ntmps161;go_wp2
  go_ret;exact⟨z3b H.symm,rfl⟩
 ·by_cases h2:b<a
  ·have H:Hid (z35 a b=1):=hd_ (by unfold z35;rw[if_neg h1,if_pos h2])
   go_enter func161,ntmps161;go_wp2
   go_ret;exact⟨z3b H.symm,rfl⟩
  ·have H:Hid (z35 a b=0):=hd_ (by unfold z35;rw[if_neg h1,if_neg h2])
   go_enter func161,ntmps161;go_wp2
   go_ret;exact⟨z3b H.symm,rfl⟩
theorem z3l (a:Int)(w:zW):Calls prog 212 #[zI a] w fun e w'=>e=.returned (.bool (z32 a))/\w=w':=by
 by_cases h1:a=3
 ·subst h1;go_enter func212,ntmps212;go_wp2
  go_ret;exact⟨rfl,rfl⟩
 ·have n1:(a != 3)=true:=by simpa using h1
  have H:Hid (z32 a=(a != 5)):=hd_ (by unfold z32;rw[n1];rfl)
  go_enter func212,ntmps212;go_wp2
  go_ret;exact⟨z12 H.symm,rfl⟩
theorem z3m (s:zA)(k:Nat)(h:k<s.size):s.data.toList.drop k=s[k] :: s.data.toList.drop (k+1):=by
 rw[Zo (by simpa using h)];rfl
theorem z3n {a b:zA}{k:Nat}(ha:k<a.size)(hb:k<b.size)(h:a[k]=b[k]):z2z (a.data.toList.drop k) (b.data.toList.drop k)=z2z (a.data.toList.drop (k+1)) (b.data.toList.drop (k+1)):=by
 rw[z3m a k ha,z3m b k hb,z2z,if_pos h]
theorem z3o {a b:zA}{k:Nat}(ha:k<a.size)(hb:k<b.size)(h:a[k]≠b[k]):z2z (a.data.toList.drop k) (b.data.toList.drop k)=if a[k]=47 then -1 else if b[k]=47 then 1 else z35 a[k].toNat b[k].toNat:=by
 rw[z3m a k ha,z3m b k hb,z2z,if_neg h];by_cases h1:a[k]=47
 ·rw[if_pos h1,if_pos h1]
 ·rw[if_neg h1,if_neg h1];by_cases h2:b[k]=47
  ·rw[if_pos h2,if_pos h2]
  ·rw[if_neg h2,if_neg h2];unfold z35;have hne:a[k].toNat≠b[k].toNat:=fun e=>h (UInt8.toNat_inj.1 e);by_cases h3:a[k]<b[k]
   ·rw[if_pos h3,if_pos (by rw[UInt8.lt_iff_toNat_lt] at h3;omega)]
   ·rw[if_neg h3];rw[UInt8.lt_iff_toNat_lt] at h3;rw[if_neg (by omega),if_pos (by omega)]
theorem cmp_end {a b:zA}{k:Nat}(ha:k<=a.size)(hb:k<=b.size)(h:¬(k<a.size/\k<b.size)):z2z (a.data.toList.drop k) (b.data.toList.drop k)=z35 a.size b.size:=by
 have la:a.data.toList.length=a.size:=rfl;have lb:b.data.toList.length=b.size:=rfl;unfold z35;by_cases h1:k<a.size
 ·have hb':b.data.toList.drop k=[]:=ZX (by omega)
  rw[hb',z3m a k h1,z2z,if_neg (by omega),if_pos (by omega)]
 ·have ha':a.data.toList.drop k=[]:=ZX (by omega)
  by_cases h2:k<b.size
  ·rw[ha',z3m b k h2,z2z,if_pos (by omega)]
  ·have hb':b.data.toList.drop k=[]:=ZX (by omega)
   rw[ha',hb',z2z,if_neg (by omega),if_neg (by omega)]
def errP (b:Bool):Int:=z2q 20 b
theorem ret2 {k j:IntKind}{a b c d:Int}(h1:a=b)(h2:c=d):Ending.returned (.tuple #[.int k a,.int j c])=.returned (.tuple #[.int k b,.int j d]):=by rw[h1,h2]
def z3p (w w':zW):Prop:=∃ n,w'=w.drewN n
theorem z3p.refl (w:zW):z3p w w:=⟨0,rfl⟩
theorem z3p.more {w w':zW}(h:z3p w w')(n:Nat):z3p w (w'.drewN n):=by
 obtain⟨m,rfl⟩:=h;exact⟨m+n,by rw[World.drewN_drewN]⟩
theorem z3q {P:Program}{f:FuncId}{args:Array zV}{w:zW}{n:Nat}{v:zV}
  (h:Calls P f args (w.drewN n) fun e w'=>e=.returned v/\w.drewN n=w'):Calls P f args (w.drewN n) fun e w''=>e=.returned v/\∃ m,w''=w.drewN m:=
 h.mono fun _ _ ⟨he,hm⟩=>⟨he,n,hm.symm⟩
theorem u8_ne {a b:UInt8}(h:a≠b):((a.toNat:Int) == (b.toNat:Int))=false:=by
 rw[beq_eq_false_iff_ne];intro e;exact h (UInt8.toNat_inj.1 (by omega))
theorem u8_47 {a:UInt8}(h:a≠47):((a.toNat:Int) == 47)=false:=u8_ne (b:=47) h
theorem z3r (a b:zA)(w:zW)(ha:a.size<=140737488355328)(hb:b.size<=140737488355328):
  Calls prog 104 #[zS a,zS b] w fun e w'=>e=.returned (.tuple #[zI (z30 a b),zI (errP (z2y a && z2y b))])/\z3p w w':=by
 have VA:=hd_ (z3i a w ha);have VB:=hd_ (z3i b w hb);cases h1:z2x a.data.toList
 ·rw[h1] at VA;have H:Hid (z30 a b=0/\errP (z2y a && z2y b)=20):=hd_ (by unfold z30 z2y;rw[h1];exact⟨rfl,rfl⟩)
  clear h1;go_enter func104,ntmps104;go_wp2_with fail;refine VA.mono ?_;rintro e w' ⟨rfl,rfl⟩;go_wp2_with fail;go_ret2;exact⟨ret2 H.1.symm H.2.symm,z3p.refl _⟩
 ·rw[h1] at VA;cases h2:z2x b.data.toList
  ·rw[h2] at VB;have H:Hid (z30 a b=0/\errP (z2y a && z2y b)=20):=hd_ (by unfold z30 z2y;rw[h1,h2];exact⟨rfl,rfl⟩)
   clear h1 h2;go_enter func104,ntmps104;go_wp2_with fail;refine VA.mono ?_;rintro e w' ⟨rfl,rfl⟩;go_wp2_with fail;refine VB.mono ?_;rintro e w' ⟨rfl,rfl⟩;go_wp2_with fail;go_ret2;exact⟨ret2 H.1.symm H.2.symm,z3p.refl _⟩
  ·rw[h2] at VB;have H:Hid (z30 a b=z2z a.data.toList b.data.toList/\errP (z2y a && z2y b)=0):=hd_ (by unfold z30 z2y;rw[h1,h2];exact⟨rfl,rfl⟩)
   clear h1 h2;by_cases hm:b.size<a.size
   all_goals
    go_enter func104,ntmps104;go_wp2_with fail;refine VA.mono ?_;rintro e w' ⟨rfl,rfl⟩;go_wp2_with fail;refine VB.mono ?_;rintro e w' ⟨rfl,rfl⟩;go_wp2_with fail;clear VA VB;go_loopw [20] (fun i wr=>∃ k:Nat,k<=a.size/\k<=b.size/\i=zI k/\Hid (z2z a.data.toList b.data.toList=z2z (a.data.toList.drop k) (b.data.toList.drop k))/\Hid (z3p w wr)) (fun i _=>a.size - (intOf i).toNat)
    exact⟨0,by omega,by omega,rfl,hd_ rfl,hd_ (z3p.refl _)⟩
    obtain⟨k,hk1,hk2,rfl,HE,HQ⟩:=hrel;by_cases hlt:k<a.size/\k<b.size
    ·obtain⟨l1,l2⟩:=hlt;by_cases he:a[k]=b[k]
     ·have HN:=hd_ (HE.trans (z3n l1 l2 he));have q:((a[k].toNat:Int) == (b[k].toNat:Int))=true:=by rw[he];simp
      clear he;go_wp2_with fail;go_quiet (fail)
      go_wp2_with fail;go_roundw
      exact⟨k+1,by omega,by omega,by go_num,HN,hd_ (HQ.more nq)⟩
      simp [intOf];omega
     ·have HN:=hd_ (HE.trans (z3o l1 l2 he));have q:=u8_ne he;clear he;by_cases h47:a[k]=47
      ·rw[if_pos h47] at HN;have q1:((a[k].toNat:Int) == 47)=true:=by rw[h47];rfl
       clear h47;go_wp2_with fail;go_quiet (fail)
       go_wp2_with fail;go_ret2;exact⟨ret2 (H.1.trans HN).symm H.2.symm,HQ.more nq⟩
      ·rw[if_neg h47] at HN;have q1:=u8_47 h47;clear h47;by_cases h47:b[k]=47
       ·rw[if_pos h47] at HN;have q2:((b[k].toNat:Int) == 47)=true:=by rw[h47];rfl
        clear h47;go_wp2_with fail;go_quiet (fail)
        go_wp2_with fail;go_ret2;exact⟨ret2 (H.1.trans HN).symm H.2.symm,HQ.more nq⟩
       ·rw[if_neg h47] at HN;have q2:=u8_47 h47;clear h47;go_wp2_with fail;go_quiet (fail)
        go_wp2_with fail;have HQ2:=hd_ (HQ.more nq);generalize wr.drewN nq=w2 at HQ2 |-;go_quiet ((go_at_call 161;exact z3q (z3k _ _ _)))
        go_wp2_with fail;go_ret2;exact⟨ret2 (H.1.trans HN).symm H.2.symm,HQ2.more nq⟩
    ·have HN:=hd_ (HE.trans (cmp_end hk1 hk2 hlt));have hge:¬ k<a.size\/¬ k<b.size:=by omega
     clear hlt;go_wp2_with fail;refine (z3j _ _ _).mono ?_;rintro e w' ⟨rfl,rfl⟩;go_wp2_with fail;go_ret2;exact⟨ret2 (H.1.trans HN).symm H.2.symm,HQ⟩
