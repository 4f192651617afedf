/- A part. -/
import Derived.Test.YtlnjaagijaadmaaGreatDoorMxB0
import Derived.Test.YtlnjaagijaadmaaGreatDoorRows
import Derived.WalkKit
import Derived.WalkSpells
import Derived.WalkLawsBesides
import Derived.Lib.Hide
import Derived.Deep.QuietTactic
import Derived.BigQuiet
import Derived.Maps.AppendAt
import Derived.OwnWalkIn
import Derived.Lib.AppendStr
import Derived.Lib.Split
import Derived.Lib.SplitLaws
import Derived.Lib.CountLaws
import Derived.Lib.IndexBytes
import Derived.Lib.IndexLaws
import Derived.Lib.Join
set_option linter.unusedVariables false
set_option linter.unusedSimpArgs false
set_option maxHeartbeats 1000000
namespace Go.Proofs.YtlnjaagijaadmaaGreatDoor
open Go.RowKit
def z0x (c:Int):Bool:=decide (65<=c/\c<=90\/97<=c/\c<=122\/48<=c/\c<=57\/c=95\/c=46\/c=43\/c=45)
def z0y (l:List UInt8):Bool:=(!l.isEmpty && l.head? != some 46) && l.all (fun c=>z0x c.toNat)
def z0z (s:zA):Bool:=z0y s.data.toList
theorem z12 {a b:Bool}(h:a=b):Ending.returned (.bool a)=.returned (.bool b):=by rw[h]
theorem z13 (c:Int)(w:zW):
  Calls Tryz.prog 150 #[.int .u8 c] w fun e w'=>e=.returned (.bool (z0x c))/\w=w':=by
 go_enter Tryz.func150,Tryz.ntmps150;go_wp2
 all_goals
  go_ret;refine⟨z12 ?_,rfl⟩;unfold z0x;first
   | decide
   | (rw[eq_comm,decide_eq_true_eq];omega)
   | (rw[ZY];simp only[Bool.or_eq_true,beq_iff_eq,decide_eq_true_eq];omega)
theorem z14 (s:zA)(k:Nat)(h:k<s.size):s.data.toList.take (k+1)=s.data.toList.take k++[s[k]]:=by
 rw[Zr (by simpa using h)];rfl
theorem z15 (s:zA)(p:UInt8->Bool)(k:Nat)(h:k<s.size)(ha:(s.data.toList.take k).all p=true)(hp:p s[k]=true):(s.data.toList.take (k+1)).all p=true:=by
 rw[z14 s k h,List.all_append,ha];simp [hp]
theorem z16 (s:zA)(p:UInt8->Bool)(k:Nat)(h:k<s.size)(hp:p s[k]=false):s.data.toList.all p=false:=by
 rw[List.all_eq_false];exact⟨s[k],Array.getElem_mem_toList ..,by simp [hp]⟩
theorem z17 (s:zA)(p:UInt8->Bool)(k:Nat)(h:¬ k<s.size)(ha:(s.data.toList.take k).all p=true):s.data.toList.all p=true:=by
 rwa [ZQ (by simpa using (Nat.not_lt.1 h))] at ha
theorem z18 {s:zA}(h:0<s.size):∃ c t,s.data.toList=c :: t/\s[0]=c:=by
 have hl:0<s.data.toList.length:=by simpa using h
 cases hd:s.data.toList with
 | nil=>rw[hd] at hl;simp at hl
 | cons c t =>
  refine⟨c,t,rfl,?_⟩;have:s.data.toList[0]=c:=by simp [hd]
  rw[<- this];simp;rfl
theorem z19 {s:zA}(h:s.size=0):z0z s=false:=by
 have hl:s.data.toList=[]:=Zt (by simpa using h)
 unfold z0z z0y;rw[hl];rfl
theorem z1a {s:zA}{c:UInt8}{t:List UInt8}(h:s.data.toList=c :: t)(hc:c=46):z0z s=false:=by
 unfold z0z z0y;rw[h,hc];simp
theorem z1b {s:zA}{c:UInt8}{t:List UInt8}(h:s.data.toList=c :: t)(hc:c≠46):z0z s=s.data.toList.all (fun c=>z0x c.toNat):=by
 unfold z0z z0y;rw[h];simp [hc]
theorem z1c {s:zA}(h:s.data.toList.all (fun c=>z0x c.toNat)=false):z0z s=false:=by
 unfold z0z z0y;rw[h];simp
theorem z1d (s:zA)(w:zW)(hs:s.size<=maxLen):
  Calls Tryz.prog 101 #[zS s] w fun e w'=>e=.returned (.bool (z0z s))/\w=w':=by
 unfold maxLen at hs;rcases ZU s.size with h0 | h0
 ·have hne:s.toList=[]:=by rw[ByteArray.toList_eq];exact Zt (by simpa using h0)
  have H0:=Lib.hid (z19 h0);clear h0;go_enter Tryz.func101,Tryz.ntmps101;go_wp2
  go_ret;exact⟨z12 H0.symm,rfl⟩
 ·obtain⟨c,t,hd,hc⟩:=z18 h0;have hne:s.toList.isEmpty=false:=by rw[ByteArray.toList_eq,hd];rfl
  have hne2:¬ s.toList=[]:=by rw[ByteArray.toList_eq,hd];simp
  have HD:=Lib.hid hd;by_cases hc46:c=46
  ·have h46:((s[0].toNat:Int) == 46)=true:=by rw[hc,hc46];rfl
   clear hd hc;go_enter Tryz.func101,Tryz.ntmps101;go_wp2
   go_ret;exact⟨z12 (z1a HD hc46).symm,rfl⟩
  ·have h46:((s[0].toNat:Int) == 46)=false:=by
    rw[hc,beq_eq_false_iff_ne];intro h;exact hc46 (UInt8.toNat.inj (show c.toNat=46 by omega))
   have HE:=Lib.hid (z1b HD.out hc46);clear hd hc HD hc46;go_enter Tryz.func101,Tryz.ntmps101;go_wp2
   clear h46;go_loop [13] (fun i=>∃ k:Nat,k<=s.size/\i=zI k/\(s.data.toList.take k).all (fun c=>z0x c.toNat)=true) (fun i=>s.size - (intOf i).toNat)
   exact⟨0,Zg _,rfl,rfl⟩
   obtain⟨k,hk,rfl,hall⟩:=hrel;have HA:=Lib.hid hall;clear hall;by_cases hlt:k<s.size
   ·cases hl:z0x s[k].toNat
    ·have HL:=Lib.hid hl;go_wp2_with (go_at_call 150;refine (z13 _ _).mono ?_;rintro e w' ⟨rfl,rfl⟩)
     go_ret;exact⟨z12 (z1c (z16 s (fun c=>z0x c.toNat) k hlt HL)).symm,rfl⟩
    ·have HL:=Lib.hid hl;go_wp2_with (go_at_call 150;refine (z13 _ _).mono ?_;rintro e w' ⟨rfl,rfl⟩)
     go_round
     exact⟨k+1,by omega,by go_num,z15 s (fun c=>z0x c.toNat) k hlt HA HL⟩
     simp [intOf];omega
   ·go_wp2
    go_ret;exact⟨z12 (by rw[HE.out,z17 s _ k hlt HA.out]),rfl⟩
def z1e:List UInt8->List (List UInt8)
 | []=>[[]]
 | c :: l=>if c=47 then [] :: z1e l else
  match z1e l with
  | []=>[[c]]
  | p :: ps=>(c :: p) :: ps
theorem z1f (l:List UInt8):z1e l≠[]:=by
 cases l with
 | nil=>simp [z1e]
 | cons c l=>unfold z1e;split;simp;split <;> simp
theorem z1g {a:List UInt8}(h:(47:UInt8)∉a)(r:List UInt8):z1e (a++47 :: r)=a :: z1e r:=by
 induction a with
 | nil=>simp [z1e]
 | cons c a ih =>
  have hc:c≠47:=fun e=>h (by simp [e])
  rw[List.cons_append,z1e,if_neg hc,ih (fun e=>h (by simp [e]))]
theorem z1h {a:List UInt8}(h:(47:UInt8)∉a):z1e a=[a]:=by
 induction a with
 | nil=>rfl
 | cons c a ih =>
  have hc:c≠47:=fun e=>h (by simp [e])
  rw[z1e,if_neg hc,ih (fun e=>h (by simp [e]))]
theorem z1i {l p:List UInt8}(h:p∈z1e l):(47:UInt8)∉p/\p.length<=l.length:=by
 induction l generalizing p with
 | nil=>simp [z1e] at h;subst h;simp
 | cons c l ih =>
  unfold z1e at h;split at h
  ·rcases Zn.1 h with rfl | h
   ·simp
   ·have:=ih h;exact⟨this.1,by simp;omega⟩
  ·rename_i hc
   split at h
   ·simp at h;subst h;exact⟨by simp;exact fun e=>hc e.symm,by simp⟩
   ·rename_i q qs hq
    rcases Zn.1 h with rfl | h
    ·have:=ih (p:=q) (by rw[hq];simp)
     exact⟨by simp only[Zn,not_or];exact⟨fun e=>hc e.symm,this.1⟩,by simp;omega⟩
    ·have:=ih (p:=p) (by rw[hq];simp [h]);exact⟨this.1,by simp;omega⟩
theorem z1j (l:List UInt8):(z1e l).length=l.count 47+1:=by
 induction l with
 | nil=>rfl
 | cons c l ih =>
  unfold z1e;split
  ·rename_i hc;subst hc;simp [ih]
  ·rename_i hc
   rw[List.count_cons,if_neg (by simpa using hc)]
   split
   ·rename_i hq;exact absurd hq (z1f l)
   ·rename_i q qs hq;rw[hq] at ih;simpa using ih
theorem z1k (l:List UInt8):(z1e l).length<=l.length+1:=by
 rw[z1j];have:=List.count_le_length (a:=(47:UInt8)) (l:=l);omega
theorem part (l:List UInt8):(47:UInt8)∉l\/∃ a r,l=a++47 :: r/\(47:UInt8)∉a:=by
 induction l with
 | nil=>left;simp
 | cons c l ih =>
  by_cases hc:c=47
  ·right;exact⟨[],l,by simp [hc],by simp⟩
  ·rcases ih with h | ⟨a,r,rfl,h⟩
   ·left;simp only[Zn,not_or];exact⟨fun e=>hc e.symm,h⟩
   ·right;exact⟨c :: a,r,by simp,by simp only[Zn,not_or];exact⟨fun e=>hc e.symm,h⟩⟩
theorem z1l (x:List UInt8)(r:List (List UInt8))(h:r≠[])(sep:List UInt8):Lib.join (x :: r) sep=x++sep++Lib.join r sep:=by
 cases r with
 | nil=>exact absurd rfl h
 | cons y r=>rw[Lib.join_cons,Lib.join_cons];simp [Lib.joinTail]
theorem z1m (l:List UInt8):Lib.join (z1e l) [47]=l:=by
 induction hn:l.length using Nat.strongRecOn generalizing l with
 | _ n ih =>
  rcases part l with h | ⟨a,r,rfl,h⟩
  ·rw[z1h h,Lib.join_one]
  ·rw[z1g h,z1l _ _ (z1f r),ih r.length (by subst hn;simp;omega) r rfl];simp
theorem z1n {ps:List (List UInt8)}(hne:ps≠[])(h:∀ p∈ps,(47:UInt8)∉p):z1e (Lib.join ps [47])=ps:=by
 induction ps with
 | nil=>exact absurd rfl hne
 | cons x r ih =>
  by_cases hr:r=[]
  ·subst hr;rw[Lib.join_one,z1h (h x (by simp))]
  ·rw[z1l _ _ hr,ZE,List.singleton_append,z1g (h x (by simp)),ih hr (fun p hp=>h p (by simp [hp]))]
theorem z1o (l:List UInt8)(ps:List (List UInt8))(h:∀ p∈ps,p.length<=l.length)(n:Nat)(hn:ps.length<=n):(Lib.join ps [47]).length<=n * (l.length+1):=by
 induction ps generalizing n with
 | nil=>simp [Lib.join_nil]
 | cons x r ih =>
  have hx:=h x (by simp)
  simp only[Zz] at hn
  obtain⟨m,rfl⟩:∃ m,n=m+1:=⟨n - 1,by omega⟩
  rw[Nat.succ_mul];by_cases hr:r=[]
  ·subst hr;rw[Lib.join_one];omega
  ·have:=ih (fun p hp=>h p (by simp [hp])) m (by omega)
   rw[z1l _ _ hr];simp only[Zc,Zz,List.length_nil]
   omega
theorem z1p {l:List UInt8}(h:(47:UInt8)∉l):Lib.index l [47]=-1:=by
 rw[Lib.index_one];have:=Lib.indexByte_ge l 47;by_cases he:Lib.indexByte l 47=-1
 ·exact he
 ·obtain⟨j,hj⟩:∃ j:Nat,Lib.indexByte l 47=(j:Int):=⟨(Lib.indexByte l 47).toNat,by omega⟩
  exact absurd (List.mem_of_getElem? (Lib.indexByte_some hj).1) h
theorem z1q {a:List UInt8}(h:(47:UInt8)∉a)(r:List UInt8):Lib.index (a++47 :: r) [47]=(a.length:Int):=by
 rw[Lib.index_one];have hge:=Lib.indexByte_ge (a++47 :: r) 47;by_cases he:Lib.indexByte (a++47 :: r) 47=-1
 ·exact absurd (by simp) (Lib.indexByte_none he a.length)
 ·obtain⟨j,hj⟩:∃ j:Nat,Lib.indexByte (a++47 :: r) 47=(j:Int):=⟨(Lib.indexByte (a++47 :: r) 47).toNat,by omega⟩
  obtain⟨h1,h2⟩:=Lib.indexByte_some hj;rw[hj];have hja:¬ j<a.length:=fun hlt=>by
   rw[List.getElem?_append_left hlt] at h1;exact h (List.mem_of_getElem? h1)
  have:¬ a.length<j:=fun hlt=>h2 a.length hlt (by simp)
  omega
theorem z1r (s:List UInt8):Lib.splitK [47] 0 (Lib.count s [47]) s=z1e s:=by
 induction hn:s.length using Nat.strongRecOn generalizing s with
 | _ n ih =>
  rcases part s with h | ⟨a,r,rfl,h⟩
  ·rw[Lib.count_miss (z1p h),z1h h];rfl
  ·rw[Lib.count_hit (by simp) (z1q h r),z1g h]
   have hd:(a++47 :: r).drop (a.length+([47]:List UInt8).length)=r:=by
    rw[<- List.drop_drop,List.drop_left];rfl
   rw[hd,Nat.add_comm 1];unfold Lib.splitK;rw[if_neg (by rw[z1q h r];simp),z1q h r]
   simp only[Int.toNat_natCast,Nat.add_zero]
   rw[hd,List.take_left,ih r.length (by subst hn;simp;omega) r rfl]
theorem z1s {a b:zA}(h:a.data.toList=b.data.toList):a=b:=by
 cases a with | mk x=>cases b with | mk y =>
 have:x=y:=Array.ext' h;rw[this]
theorem z1t (s:zA):Lib.splitB ⟨#[47]⟩ 0 (Lib.countB s ⟨#[47]⟩) s=(z1e s.data.toList).map (fun p=>(⟨p.toArray⟩:zA)):=by
 have h:=Lib.splitB_data ⟨#[47]⟩ 0 (Lib.countB s ⟨#[47]⟩) s;have e:Lib.splitK (⟨#[47]⟩:zA).data.toList 0 (Lib.countB s ⟨#[47]⟩) s.data.toList=z1e s.data.toList:=z1r s.data.toList;rw[e] at h;rw[<- h,List.map_map];conv=>lhs;rw[<- List.map_id (Lib.splitB ⟨#[47]⟩ 0 (Lib.countB s ⟨#[47]⟩) s)]
 exact List.map_congr_left fun x _=>z1s rfl
theorem z1u (s:zA):Lib.countB s ⟨#[47]⟩+1=(z1e s.data.toList).length:=by
 rw[z1j];congr 1
 exact Lib.count_one 47 s.data.toList
