/- A part. -/
import Derived.Test.YtijghobkkdbhnaaGreatDoorMcw2
import Derived.Lib.Strings
import Derived.Deep.RegionHeld3
import Derived.Deep.MidRow
import Derived.StillTailTactics
import Derived.IntWalk
set_option linter.unusedVariables false
set_option linter.unusedSimpArgs false
set_option maxHeartbeats 4000000
namespace Go.Proofs.YtijghobkkdbhnaaGreatDoor
open Go.Proofs.Tryz
open Go.RowKit
theorem z38 {s:ByteArray}(h:Lib.hasPrefix s.data.toList [47,47]=true):2≤s.size:=by
 have:s.data.toList.length=s.size:=rfl;rw[← this];cases hl:s.data.toList with
 | nil=>rw[hl] at h;cases h
 | cons a l=>cases l with
  | nil=>rw[hl] at h;unfold Lib.hasPrefix at h;simp at h
  | cons b l=>simp
theorem pre_eq (s p:ByteArray)(h:p.size≤s.size):(s.extract 0 p.size == p)=Lib.hasPrefix s.data.toList p.data.toList:=by
 have e1:(s.extract 0 p.size).data.toList=s.data.toList.take p.size:=by rw[Lib.extract_data];simp
 rw[Bool.eq_iff_iff,beq_iff_eq];unfold Lib.hasPrefix;rw[List.isPrefixOf_iff_prefix];have hpl:p.data.toList.length=p.size:=rfl;constructor
 ·intro e;have:p.data.toList=s.data.toList.take p.size:=by rw[← e1,e]
  rw[this];exact List.take_prefix _ _
 ·intro e;have:=List.prefix_iff_eq_take.1 e;rw[hpl] at this;have h2:(s.extract 0 p.size).data.toList=p.data.toList:=by rw[e1,← this]
  cases hs:s.extract 0 p.size with | mk x=>cases p with | mk y =>
   rw[hs] at h2;congr 1
   exact Array.toList_inj.1 h2
theorem z39 (s p:ByteArray)(h:¬ p.size≤s.size):Lib.hasPrefix s.data.toList p.data.toList=false:=by
 unfold Lib.hasPrefix;rw[Bool.eq_false_iff];intro e;have:=(List.isPrefixOf_iff_prefix.1 e).length_le;have h1:p.data.toList.length=p.size:=rfl;have h2:s.data.toList.length=s.size:=rfl;omega
theorem hasP (s p:ByteArray)(w:World)(b:Bool)(h:Lib.hasPrefix s.data.toList p.data.toList=b):Calls prog 126 #[.string s,.string p] w fun e w'=>e=.returned (.bool b)∧w=w':=by
 by_cases hl:p.size≤s.size
 ·have hq:((s.extract 0 p.size).toList == p.toList)=b:=by
   rw[← h,← pre_eq s p hl,ByteArray.toList_eq,ByteArray.toList_eq,Bool.eq_iff_iff,beq_iff_eq,beq_iff_eq];constructor
   ·intro e;cases hs:s.extract 0 p.size with | mk x=>cases p with | mk y =>
     rw[hs] at e;congr 1;exact Array.toList_inj.1 e
   ·intro e;rw[e]
  have d1:decide ((p.size:Int)≤(s.size:Int))=true:=by simp;omega
  clear h;go_enter func126,ntmps126;go_wp2
  go_ret;exact⟨rfl,rfl⟩
 ·have hb:=z39 s p hl;rw[h] at hb;subst hb;have d1:decide ((p.size:Int)≤(s.size:Int))=false:=by simp;omega
  clear h;go_enter func126,ntmps126;go_wp2
  go_ret;exact⟨rfl,rfl⟩
theorem z3a {k:IntKind}{a b:Int}(h:a=b):Ending.returned (.int k a)=.returned (.int k b):=by rw[h]
theorem z3b (b:Int)(k l x:Bool)(w:World):
  Calls prog 233 #[.agg #[.int .i64 b,.bool k,.bool l,.bool x]] w fun e w'=>e=.returned (.int .i64 (z2p 90 (z2o b k x)))∧zB w w':=by
 by_cases h1:b=1
 ·subst h1;go_enter func233,ntmps233;go_wp2
  go_ret;exact⟨rfl,(Below.refl _ _).alloc (Nat.le_refl _) _⟩
 ·by_cases h2:b=2
  ·subst h2;cases k
   all_goals
    go_enter func233,ntmps233;go_wp2
    go_ret;exact⟨rfl,(Below.refl _ _).alloc (Nat.le_refl _) _⟩
  ·by_cases h3:b=3
   ·subst h3;cases k <;> cases x
    all_goals
     go_enter func233,ntmps233;go_wp2
     go_ret;exact⟨rfl,(Below.refl _ _).alloc (Nat.le_refl _) _⟩
   ·have H:Hid (z2o b k x=false):=hd_ (by unfold z2o;simp [h1,h2,h3])
    have g1:(b == 1)=false:=by simpa using h1
    have g2:(b == 2)=false:=by simpa using h2
    have g3:(b == 3)=false:=by simpa using h3
    go_enter func233,ntmps233;go_wp2
    go_ret;exact⟨z3a (by rw[H.out];rfl),(Below.refl _ _).alloc (Nat.le_refl _) _⟩
abbrev Comps:=List (List UInt8)
def z3c (l:List UInt8)(i b c:Nat):Prop:=
 2≤b∧b≤i∧i≤l.length+1∧∃ done:Comps,done.length=c∧done.all z0z=true ∧
  ((i≤l.length∧z1f (l.drop 2)=done++z1f (l.drop b)∧(47:UInt8)∉(l.drop b).take (i - b))∨(i=l.length+1∧z1f (l.drop 2)=done))
theorem z3c.start {l:List UInt8}(h:2≤l.length):z3c l 2 2 0:=⟨by omega,by omega,by omega,[],rfl,rfl,.inl ⟨h,rfl,by simp⟩⟩
theorem z3c.next {l:List UInt8}{i b c:Nat}(h:z3c l i b c)(hi:i<l.length)(hne:l[i]≠47):z3c l (i+1) b c:=by
 obtain⟨h1,h2,h3,done,h4,h5,h6⟩:=h;refine⟨h1,by omega,by omega,done,h4,h5,?_⟩
 rcases h6 with⟨h6,h7,h8⟩ | ⟨h6,-⟩
 ·refine .inl ⟨by omega,h7,?_⟩
  rw[show i+1 - b=(i - b)+1 by omega,List.take_succ_eq_append_getElem (by rw[List.length_drop];omega)]
  rw[List.mem_append,not_or];refine⟨h8,?_⟩;have:(l.drop b)[i - b]'(by rw[List.length_drop];omega)=l[i]:=by rw[List.getElem_drop];congr 1;omega
  rw[this];simpa using fun e=>hne e.symm
 ·omega
def z3d (l:List UInt8)(b i:Nat):List UInt8:=(l.drop b).take (i - b)
theorem z3c.part {l:List UInt8}{i b c:Nat}(h:z3c l i b c)(hi:i≤l.length)(hend:∀ h:i<l.length,l[i]=47):
  ∃ done:Comps,done.length=c∧done.all z0z=true∧z1f (l.drop 2)=done++z3d l b i :: (if i<l.length then z1f (l.drop (i+1)) else []):=by
 obtain⟨h1,h2,h3,done,h4,h5,h6⟩:=h;rcases h6 with⟨h6,h7,h8⟩ | ⟨h6,-⟩
 ·refine⟨done,h4,h5,?_⟩;rw[h7];congr 1
  by_cases hlt:i<l.length
  ·rw[if_pos hlt];have e:l.drop b=z3d l b i++47 :: l.drop (i+1):=by
    have hd:(l.drop b).drop (i - b)=47 :: l.drop (i+1):=by
     rw[List.drop_drop,show b+(i - b)=i by omega,List.drop_eq_getElem_cons hlt,hend hlt]
    rw[← hd];exact (List.take_append_drop _ _).symm
   rw[e];exact z1h h8 _
  ·rw[if_neg hlt];have e:z3d l b i=l.drop b:=by unfold z3d;rw[List.take_of_length_le (by rw[List.length_drop];omega)]
   rw[← e];exact z1i h8
 ·omega
theorem z3c.step {l:List UInt8}{i b c:Nat}(h:z3c l i b c)(hi:i≤l.length)(hend:∀ h:i<l.length,l[i]=47)(hc:z0z (z3d l b i)=true):z3c l (i+1) (i+1) (c+1):=by
 obtain⟨done,h4,h5,h6⟩:=h.part hi hend;obtain⟨h1,h2,h3,-⟩:=h;refine⟨by omega,by omega,by omega,done++[z3d l b i],by simp [h4],by rw[List.all_append,h5];simp [hc],?_⟩
 by_cases hlt:i<l.length
 ·rw[if_pos hlt] at h6;exact .inl ⟨by omega,by rw[h6];simp,by simp⟩
 ·rw[if_neg hlt] at h6;exact .inr ⟨by omega,h6⟩
theorem z3c.bad {l:List UInt8}{i b c:Nat}(h:z3c l i b c)(hi:i≤l.length)(hend:∀ h:i<l.length,l[i]=47)(hc:z0z (z3d l b i)=false):z2w l=false:=by
 obtain⟨done,h4,h5,h6⟩:=h.part hi hend;unfold z2w z2v;rw[if_neg]
 ·rfl
 ·rintro⟨-,-,h⟩;rw[h6,List.all_append] at h;simp [hc] at h
theorem z3c.fin {l:List UInt8}{i b c:Nat}(h:z3c l i b c)(hi:¬ i≤l.length)(hp:Lib.hasPrefix l [47,47]=true):z2w l=decide (2≤c):=by
 obtain⟨h1,h2,h3,done,h4,h5,h6⟩:=h;rcases h6 with⟨h6,-⟩ | ⟨-,h6⟩
 ·omega
 ·unfold z2w z2v;rw[h6,h4];by_cases h2c:2≤c
  ·rw[if_pos ⟨hp,h2c,h5⟩];simp [h2c]
  ·rw[if_neg (fun h=>h2c h.2.1)];simp [h2c]
theorem z3e {l:List UInt8}(h:Lib.hasPrefix l [47,47]=false):z2w l=false:=by
 unfold z2w z2v;rw[if_neg (fun hh=>by rw[h] at hh;cases hh.1)];rfl
theorem z3c.count {l:List UInt8}{i b c:Nat}(h:z3c l i b c):c≤l.length+1:=by
 obtain⟨h1,h2,h3,done,h4,h5,h6⟩:=h;have hs:=z1l (l.drop 2);rw[List.length_drop] at hs;rcases h6 with⟨-,h6,-⟩ | ⟨-,h6⟩
 ·rw[h6,List.length_append] at hs;omega
 ·rw[h6] at hs;omega
theorem z3f (p:ByteArray)(b i:Nat):z12 (p.extract b i)=z0z (z3d p.data.toList b i):=by
 unfold z12 z3d;rw[Lib.extract_data]
theorem z3g (p:ByteArray)(b i:Nat):(p.extract b i).size≤p.size:=by
 have h1:(p.extract b i).data.toList.length=(p.extract b i).size:=rfl;have h2:p.data.toList.length=p.size:=rfl;rw[← h1,Lib.extract_data,List.length_take,List.length_drop];omega
theorem z3h (p:ByteArray)(w:World)(hp:p.size≤140737488355328):
  Calls prog 70 #[.string p] w fun e w'=>e=.returned (.bool (z2w p.data.toList))∧w=w':=by
 cases h1:Lib.hasPrefix p.data.toList [47,47]
 ·have HV:=hd_ (z3e h1);have HP:=hd_ (hasP p ⟨#[47,47]⟩ w false h1);clear h1;go_enter func70,ntmps70;go_wp2_with fail;refine HP.out.mono ?_;rintro e w' ⟨rfl,rfl⟩;go_wp2_with fail;go_ret;exact⟨z13 HV.out.symm,rfl⟩
 ·have hsz:=z38 h1;have HP:=hd_ (hasP p ⟨#[47,47]⟩ w true h1);have HH:=hd_ h1;clear h1;have hpl:p.data.toList.length=p.size:=rfl;go_enter func70,ntmps70;go_wp2_with fail;refine HP.out.mono ?_;rintro e w' ⟨rfl,rfl⟩;go_wp2_with fail;go_loop [3,4,5] (fun c b i=>∃ k n m:Nat,z3c p.data.toList k n m∧i=.int .i64 k∧b=.int .i64 n∧c=.int .i64 m) (fun _ _ i=>p.size+1 - (intOf i).toNat)
  case atStart=>exact⟨2,2,0,z3c.start (by omega),rfl,rfl,rfl⟩
  case round =>
   obtain⟨k,n,m,hv,rfl,rfl,rfl⟩:=hrel;have hv1:=hv.1;have hv2:=hv.2.1;have hv3:=hv.2.2.1;have hm:m≤p.size+1:=z3c.count hv;have HV:=hd_ hv;clear hv;rw[hpl] at hv3;by_cases hk:k≤p.size
   ·have d1:decide ((k:Int)≤(p.size:Int))=true:=by simp;omega
    by_cases hlt:k<p.size
    ·have d2:decide ((k:Int)<(p.size:Int))=true:=by simp;omega
     by_cases h47:p[k]=47
     ·have q1:((p[k].toNat:Int) != 47)=false:=by rw[h47];rfl
      have q2:((p[k].toNat:Int) == 47)=true:=by rw[h47];rfl
      have hend:∀ h:k<p.data.toList.length,p.data.toList[k]=47:=fun h=>by rw[← h47];rfl
      have HE:=hd_ hend;clear hend h47;have hes:(p.extract n k).size≤maxLen:=by have:=z3g p n k;unfold maxLen;omega
      have HC:=hd_ (z1e (p.extract n k) w hes);clear hes;cases hcc:z0z (z3d p.data.toList n k)
      ·rw[z3f,hcc] at HC;have HB:=hd_ (HV.out.bad (by omega) HE.out hcc)
       clear hcc;go_wp2_with fail;refine HC.out.mono ?_;rintro e w' ⟨rfl,rfl⟩;go_wp2_with fail;go_ret;exact⟨z13 HB.out.symm,rfl⟩
      ·rw[z3f,hcc] at HC;have HB:=hd_ (HV.out.step (by omega) HE.out hcc)
       clear hcc;go_wp2_with fail;refine HC.out.mono ?_;rintro e w' ⟨rfl,rfl⟩;go_wp2_with fail;go_round
       case rel=>exact⟨k+1,k+1,m+1,HB.out,by go_num,by go_num,by go_num⟩
       case measure=>simp [intOf];omega
     ·have q1:((p[k].toNat:Int) != 47)=true:=by rw[bne_iff_ne];intro h;exact h47 (UInt8.toNat.inj (show p[k].toNat=47 by omega))
      have q2:((p[k].toNat:Int) == 47)=false:=by rw[beq_eq_false_iff_ne];intro h;exact h47 (UInt8.toNat.inj (show p[k].toNat=47 by omega))
      have HN:=hd_ (HV.out.next (by omega) (show p.data.toList[k]'(by omega)≠47 from h47))
      clear h47;go_wp2_with fail;go_round
      case rel=>exact⟨k+1,n,m,HN.out,by go_num,rfl,rfl⟩
      case measure=>simp [intOf];omega
    ·have d2:decide ((k:Int)<(p.size:Int))=false:=by simp;omega
     have hend:∀ h:k<p.data.toList.length,p.data.toList[k]=47:=fun h=>by omega
     have HE:=hd_ hend;clear hend;have hes:(p.extract n k).size≤maxLen:=by have:=z3g p n k;unfold maxLen;omega
     have HC:=hd_ (z1e (p.extract n k) w hes);clear hes;cases hcc:z0z (z3d p.data.toList n k)
     ·rw[z3f,hcc] at HC;have HB:=hd_ (HV.out.bad (by omega) HE.out hcc)
      clear hcc;go_wp2_with fail;refine HC.out.mono ?_;rintro e w' ⟨rfl,rfl⟩;go_wp2_with fail;go_ret;exact⟨z13 HB.out.symm,rfl⟩
     ·rw[z3f,hcc] at HC;have HB:=hd_ (HV.out.step (by omega) HE.out hcc)
      clear hcc;go_wp2_with fail;refine HC.out.mono ?_;rintro e w' ⟨rfl,rfl⟩;go_wp2_with fail;go_round
      case rel=>exact⟨k+1,k+1,m+1,HB.out,by go_num,by go_num,by go_num⟩
      case measure=>simp [intOf];omega
   ·have d1:decide ((k:Int)≤(p.size:Int))=false:=by simp;omega
    have HF:=hd_ (HV.out.fin (by omega) HH.out)
    go_wp2_with fail;go_ret;exact⟨z13 (by rw[HF.out];simp;omega),rfl⟩
theorem z3i (a b:Int)(w:World):Calls prog 149 #[.int .i64 a,.int .i64 b] w fun e w'=>e=.returned (.int .i64 (z34 a b))∧w=w':=by
 have n1:(a != a)=false:=by simp
 have n2:(b != b)=false:=by simp
 by_cases h1:a<b
 ·have H:Hid (z34 a b=-1):=hd_ (by unfold z34;rw[if_pos h1])
  go_enter func149,ntmps149;go_wp2
  go_ret;exact⟨z3a H.out.symm,rfl⟩
 ·by_cases h2:b<a
  ·have H:Hid (z34 a b=1):=hd_ (by unfold z34;rw[if_neg h1,if_pos h2])
   go_enter func149,ntmps149;go_wp2
   go_ret;exact⟨z3a H.out.symm,rfl⟩
  ·have H:Hid (z34 a b=0):=hd_ (by unfold z34;rw[if_neg h1,if_neg h2])
   go_enter func149,ntmps149;go_wp2
   go_ret;exact⟨z3a H.out.symm,rfl⟩
theorem z3j (a b:Int)(w:World):Calls prog 156 #[.int .u8 a,.int .u8 b] w fun e w'=>e=.returned (.int .i64 (z34 a b))∧w=w':=by
 have n1:(a != a)=false:=by simp
 have n2:(b != b)=false:=by simp
 by_cases h1:a<b
 ·have H:Hid (z34 a b=-1):=hd_ (by unfold z34;rw[if_pos h1])
  go_enter func156,ntmps156;go_wp2
  go_ret;exact⟨z3a H.out.symm,rfl⟩
 ·by_cases h2:b<a
  ·have H:Hid (z34 a b=1):=hd_ (by unfold z34;rw[if_neg h1,if_pos h2])
   go_enter func156,ntmps156;go_wp2
   go_ret;exact⟨z3a H.out.symm,rfl⟩
  ·have H:Hid (z34 a b=0):=hd_ (by unfold z34;rw[if_neg h1,if_neg h2])
   go_enter func156,ntmps156;go_wp2
   go_ret;exact⟨z3a H.out.symm,rfl⟩
theorem z3k (a:Int)(w:World):Calls prog 234 #[.int .i64 a] w fun e w'=>e=.returned (.bool (z30 a))∧w=w':=by
 by_cases h1:a=3
 ·subst h1;go_enter func234,ntmps234;go_wp2
  go_ret;exact⟨rfl,rfl⟩
 ·have n1:(a != 3)=true:=by simpa using h1
  have H:Hid (z30 a=(a != 5)):=hd_ (by unfold z30;rw[n1];rfl)
  go_enter func234,ntmps234;go_wp2
  go_ret;exact⟨z13 H.out.symm,rfl⟩
theorem z3l (s:ByteArray)(k:Nat)(h:k<s.size):s.data.toList.drop k=s[k] :: s.data.toList.drop (k+1):=by
 rw[List.drop_eq_getElem_cons (by simpa using h)];rfl
theorem z3m {a b:ByteArray}{k:Nat}(ha:k<a.size)(hb:k<b.size)(h:a[k]=b[k]):z2y (a.data.toList.drop k) (b.data.toList.drop k)=z2y (a.data.toList.drop (k+1)) (b.data.toList.drop (k+1)):=by
 rw[z3l a k ha,z3l b k hb,z2y,if_pos h]
theorem z3n {a b:ByteArray}{k:Nat}(ha:k<a.size)(hb:k<b.size)(h:a[k]≠b[k]):z2y (a.data.toList.drop k) (b.data.toList.drop k)=if a[k]=47 then -1 else if b[k]=47 then 1 else z34 a[k].toNat b[k].toNat:=by
 rw[z3l a k ha,z3l b k hb,z2y,if_neg h];by_cases h1:a[k]=47
 ·rw[if_pos h1,if_pos h1]
 ·rw[if_neg h1,if_neg h1];by_cases h2:b[k]=47
  ·rw[if_pos h2,if_pos h2]
  ·rw[if_neg h2,if_neg h2];unfold z34;have hne:a[k].toNat≠b[k].toNat:=fun e=>h (UInt8.toNat_inj.1 e);by_cases h3:a[k]<b[k]
   ·rw[if_pos h3,if_pos (by rw[UInt8.lt_iff_toNat_lt] at h3;omega)]
   ·rw[if_neg h3];rw[UInt8.lt_iff_toNat_lt] at h3;rw[if_neg (by omega),if_pos (by omega)]
theorem cmp_end {a b:ByteArray}{k:Nat}(ha:k≤a.size)(hb:k≤b.size)(h:¬(k<a.size∧k<b.size)):z2y (a.data.toList.drop k) (b.data.toList.drop k)=z34 a.size b.size:=by
 have la:a.data.toList.length=a.size:=rfl;have lb:b.data.toList.length=b.size:=rfl;unfold z34;by_cases h1:k<a.size
 ·have hb':b.data.toList.drop k=[]:=List.drop_of_length_le (by omega)
  rw[hb',z3l a k h1,z2y,if_neg (by omega),if_pos (by omega)]
 ·have ha':a.data.toList.drop k=[]:=List.drop_of_length_le (by omega)
  by_cases h2:k<b.size
  ·rw[ha',z3l b k h2,z2y,if_pos (by omega)]
  ·have hb':b.data.toList.drop k=[]:=List.drop_of_length_le (by omega)
   rw[ha',hb',z2y,if_neg (by omega),if_neg (by omega)]
def errP (b:Bool):Int:=z2p 20 b
theorem ret2 {k j:IntKind}{a b c d:Int}(h1:a=b)(h2:c=d):Ending.returned (.tuple #[.int k a,.int j c])=.returned (.tuple #[.int k b,.int j d]):=by rw[h1,h2]
def z3o (w w':World):Prop:=∃ n,w'=w.drewN n
theorem z3o.refl (w:World):z3o w w:=⟨0,rfl⟩
theorem z3o.more {w w':World}(h:z3o w w')(n:Nat):z3o w (w'.drewN n):=by
 obtain⟨m,rfl⟩:=h;exact⟨m+n,by rw[World.drewN_drewN]⟩
theorem z3p {P:Program}{f:FuncId}{args:Array Value}{w:World}{n:Nat}{v:Value}
  (h:Calls P f args (w.drewN n) fun e w'=>e=.returned v∧w.drewN n=w'):Calls P f args (w.drewN n) fun e w''=>e=.returned v∧∃ m,w''=w.drewN m:=
 h.mono fun _ _ ⟨he,hm⟩=>⟨he,n,hm.symm⟩
theorem u8_ne {a b:UInt8}(h:a≠b):((a.toNat:Int) == (b.toNat:Int))=false:=by
 rw[beq_eq_false_iff_ne];intro e;exact h (UInt8.toNat_inj.1 (by omega))
theorem u8_47 {a:UInt8}(h:a≠47):((a.toNat:Int) == 47)=false:=u8_ne (b:=47) h
theorem z3q (a b:ByteArray)(w:World)(ha:a.size≤140737488355328)(hb:b.size≤140737488355328):
  Calls prog 101 #[.string a,.string b] w fun e w'=>e=.returned (.tuple #[.int .i64 (z2z a b),.int .i64 (errP (z2x a && z2x b))])∧z3o w w':=by
 have VA:=hd_ (z3h a w ha);have VB:=hd_ (z3h b w hb);cases h1:z2w a.data.toList
 ·rw[h1] at VA;have H:Hid (z2z a b=0∧errP (z2x a && z2x b)=20):=hd_ (by unfold z2z z2x;rw[h1];exact⟨rfl,rfl⟩)
  clear h1;go_enter func101,ntmps101;go_wp2_with fail;refine VA.out.mono ?_;rintro e w' ⟨rfl,rfl⟩;go_wp2_with fail;go_ret2;exact⟨ret2 H.out.1.symm H.out.2.symm,z3o.refl _⟩
 ·rw[h1] at VA;cases h2:z2w b.data.toList
  ·rw[h2] at VB;have H:Hid (z2z a b=0∧errP (z2x a && z2x b)=20):=hd_ (by unfold z2z z2x;rw[h1,h2];exact⟨rfl,rfl⟩)
   clear h1 h2;go_enter func101,ntmps101;go_wp2_with fail;refine VA.out.mono ?_;rintro e w' ⟨rfl,rfl⟩;go_wp2_with fail;refine VB.out.mono ?_;rintro e w' ⟨rfl,rfl⟩;go_wp2_with fail;go_ret2;exact⟨ret2 H.out.1.symm H.out.2.symm,z3o.refl _⟩
  ·rw[h2] at VB;have H:Hid (z2z a b=z2y a.data.toList b.data.toList∧errP (z2x a && z2x b)=0):=hd_ (by unfold z2z z2x;rw[h1,h2];exact⟨rfl,rfl⟩)
   clear h1 h2;by_cases hm:b.size<a.size
   all_goals
    go_enter func101,ntmps101;go_wp2_with fail;refine VA.out.mono ?_;rintro e w' ⟨rfl,rfl⟩;go_wp2_with fail;refine VB.out.mono ?_;rintro e w' ⟨rfl,rfl⟩;go_wp2_with fail;clear VA VB;go_loopw [20] (fun i wr=>∃ k:Nat,k≤a.size∧k≤b.size∧i=.int .i64 k∧Hid (z2y a.data.toList b.data.toList=z2y (a.data.toList.drop k) (b.data.toList.drop k))∧Hid (z3o w wr)) (fun i _=>a.size - (intOf i).toNat)
    case atStart=>exact⟨0,by omega,by omega,rfl,hd_ rfl,hd_ (z3o.refl _)⟩
    case round =>
     obtain⟨k,hk1,hk2,rfl,HE,HQ⟩:=hrel;by_cases hlt:k<a.size∧k<b.size
     ·obtain⟨l1,l2⟩:=hlt;by_cases he:a[k]=b[k]
      ·have HN:=hd_ (HE.out.trans (z3m l1 l2 he));have q:((a[k].toNat:Int) == (b[k].toNat:Int))=true:=by rw[he];simp
       clear he;go_wp2_with fail;go_quiet (fail)
       go_wp2_with fail;go_roundw
       case rel=>exact⟨k+1,by omega,by omega,by go_num,HN,hd_ (HQ.out.more nq)⟩
       case measure=>simp [intOf];omega
      ·have HN:=hd_ (HE.out.trans (z3n l1 l2 he));have q:=u8_ne he;clear he;by_cases h47:a[k]=47
       ·rw[if_pos h47] at HN;have q1:((a[k].toNat:Int) == 47)=true:=by rw[h47];rfl
        clear h47;go_wp2_with fail;go_quiet (fail)
        go_wp2_with fail;go_ret2;exact⟨ret2 (H.out.1.trans HN.out).symm H.out.2.symm,HQ.out.more nq⟩
       ·rw[if_neg h47] at HN;have q1:=u8_47 h47;clear h47;by_cases h47:b[k]=47
        ·rw[if_pos h47] at HN;have q2:((b[k].toNat:Int) == 47)=true:=by rw[h47];rfl
         clear h47;go_wp2_with fail;go_quiet (fail)
         go_wp2_with fail;go_ret2;exact⟨ret2 (H.out.1.trans HN.out).symm H.out.2.symm,HQ.out.more nq⟩
        ·rw[if_neg h47] at HN;have q2:=u8_47 h47;clear h47;go_wp2_with fail;go_quiet (fail)
         go_wp2_with fail;have HQ2:=hd_ (HQ.out.more nq);generalize wr.drewN nq=w2 at HQ2 ⊢;go_quiet ((go_at_call 156;exact z3p (z3j _ _ _)))
         go_wp2_with fail;go_ret2;exact⟨ret2 (H.out.1.trans HN.out).symm H.out.2.symm,HQ2.out.more nq⟩
     ·have HN:=hd_ (HE.out.trans (cmp_end hk1 hk2 hlt));have hge:¬ k<a.size∨¬ k<b.size:=by omega
      clear hlt;go_wp2_with fail;refine (z3i _ _ _).mono ?_;rintro e w' ⟨rfl,rfl⟩;go_wp2_with fail;go_ret2;exact⟨ret2 (H.out.1.trans HN.out).symm H.out.2.symm,HQ.out⟩
theorem z3o.below {w w':World}(h:z3o w w')(B:Nat):Below B w w':=by
 obtain⟨n,rfl⟩:=h;exact below_drewN (Below.refl _ _) n
theorem z3r (a b:ByteArray)(w:World)(ha:a.size≤140737488355328)(hb:b.size≤140737488355328):
  Calls prog 148 #[.string a,.string b] w fun e w'=>e=.returned (.int .i64 (z2z a b))∧z3o w w':=by
 have H:=hd_ (z3q a b w ha hb);go_enter func148,ntmps148;go_wp2_with fail;refine H.out.mono ?_;rintro e w' ⟨rfl,hq⟩;have HQ:=hd_ hq;clear hq;go_wp2_with fail;go_ret;exact⟨rfl,HQ.out⟩
theorem z3s {p q:Prop}(h:p)(hq:p→q):p∧q:=⟨h,hq h⟩
def Rcd.small (r:Rcd):Prop:=r.frm.size≤140737488355328∧r.to.size≤140737488355328
theorem zag {w w':World}(h:zB w w')(row:Option Nat):w.grownBy w' row:=⟨h.os,h.tape,h.output,h.size,fun k hk _=>h.block k hk⟩
theorem zah {w:World}{B:Nat}{es:Array MapEntry}{c:Nat}(h:w.heap[B]? = some (.map es c))(a:Addr)(ha:a.block=B):¬ ∃ v,w.cell? a=some v:=by
 rintro⟨v,hv⟩;subst ha;unfold World.cell? at hv
 rw[h] at hv;simp at hv
theorem z2k.obj {κ α:Type}[BEq κ]{kv:κ→Value}{enc:α→Value}{w:World}{B:Nat}{f:κ→Option α}(h:z2k kv enc w B f):∃ es c,w.heap[B]? = some (.map es c):=by
 obtain⟨m,⟨es,c,h,_⟩,_⟩:=h;exact⟨es,c,h⟩
theorem Row.turn {w w':World}{size n B:Nat}{v:Value}{xs:List Value}(h:Row w size v n xs)(hs:0<size)(hm:∃ es c,w.heap[B]? = some (.map es c))(hg:w.grownBy w' (some B)):Row w' size v n xs:=by
 obtain⟨A,c,rfl,hc,hm',hl,h0,hx⟩:=h;refine⟨A,c,rfl,hc,hm',hl,h0,fun hn=>?_⟩;obtain⟨ad,e,hb,hcell⟩:=hx hn;obtain⟨es,c2,hB⟩:=hm;have hne:some ad.block≠some B:=by
  intro e2;injection e2 with e2
  have hpos:0<xs.length:=by rw[hl];exact Nat.mul_pos hn hs
  exact zah hB (ad.add 0) (by rw[z00];exact e2) ⟨xs[0],hcell 0 _ (by simp [hpos])⟩
 refine⟨ad,e,by have:=hg.size;omega,fun j u hu=>?_⟩
 exact hg.cell (hcell j u hu) (by rw[z00];exact hne)
theorem Blk.turn {w w':World}{g B:Nat}{e:TypeId}{cs:List Value}(h:Blk w g e cs)(hm:∃ es c,w.heap[B]? = some (.map es c))(hg:w.grownBy w' (some B)):Blk w' g e cs:=by
 refine Blk.grown h hg ?_;intro e2;injection e2 with e2
 subst e2;obtain⟨es,c,hB⟩:=hm;unfold Blk at h;rw[hB] at h;cases h
theorem zai (p:ByteArray)(b:Bool)(h:z2x p=b)(w:World)(hp:p.size≤140737488355328):Calls prog 70 #[.string p] w fun e w'=>e=.returned (.bool b)∧w=w':=by
 rw[← h];exact z3h p w hp
