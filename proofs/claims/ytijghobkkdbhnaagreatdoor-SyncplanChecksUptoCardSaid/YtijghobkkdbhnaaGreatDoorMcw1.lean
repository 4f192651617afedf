/- A part. -/
import Derived.Test.YtijghobkkdbhnaaGreatDoorRows
import Derived.WalkKit
import Derived.WalkSpells
import Derived.WalkLawsBesides
import Derived.Lib.Hide
import Derived.Deep.QuietTactic
import Derived.BigQuiet
import Derived.Maps.AppendAt
import Derived.OwnWalkIn
import Derived.Lib.AppendStr
import Derived.Lib.Split
import Derived.Lib.SplitLaws
import Derived.Lib.CountLaws
import Derived.Lib.IndexBytes
import Derived.Lib.IndexLaws
import Derived.Lib.Join
set_option linter.unusedVariables false
set_option linter.unusedSimpArgs false
set_option maxHeartbeats 1000000
namespace Go.Proofs.YtijghobkkdbhnaaGreatDoor
open Go.RowKit
def z0y (c:Int):Bool:=decide (65≤c∧c≤90∨97≤c∧c≤122∨48≤c∧c≤57∨c=95∨c=46∨c=43∨c=45)
def z0z (l:List UInt8):Bool:=(!l.isEmpty && l.head? != some 46) && l.all (fun c=>z0y c.toNat)
def z12 (s:ByteArray):Bool:=z0z s.data.toList
theorem z13 {a b:Bool}(h:a=b):Ending.returned (.bool a)=.returned (.bool b):=by rw[h]
theorem z14 (c:Int)(w:World):
  Calls Tryz.prog 177 #[.int .u8 c] w fun e w'=>e=.returned (.bool (z0y c))∧w=w':=by
 go_enter Tryz.func177,Tryz.ntmps177;go_wp2
 all_goals
  go_ret;refine⟨z13 ?_,rfl⟩;unfold z0y;first
   | decide
   | (rw[eq_comm,decide_eq_true_eq];omega)
   | (rw[Bool.eq_iff_iff];simp only[Bool.or_eq_true,beq_iff_eq,decide_eq_true_eq];omega)
theorem z15 (s:ByteArray)(k:Nat)(h:k<s.size):s.data.toList.take (k+1)=s.data.toList.take k++[s[k]]:=by
 rw[List.take_succ_eq_append_getElem (by simpa using h)];rfl
theorem z16 (s:ByteArray)(p:UInt8→Bool)(k:Nat)(h:k<s.size)(ha:(s.data.toList.take k).all p=true)(hp:p s[k]=true):(s.data.toList.take (k+1)).all p=true:=by
 rw[z15 s k h,List.all_append,ha];simp [hp]
theorem z17 (s:ByteArray)(p:UInt8→Bool)(k:Nat)(h:k<s.size)(hp:p s[k]=false):s.data.toList.all p=false:=by
 rw[List.all_eq_false];exact⟨s[k],Array.getElem_mem_toList ..,by simp [hp]⟩
theorem z18 (s:ByteArray)(p:UInt8→Bool)(k:Nat)(h:¬ k<s.size)(ha:(s.data.toList.take k).all p=true):s.data.toList.all p=true:=by
 rwa [List.take_of_length_le (by simpa using (Nat.not_lt.1 h))] at ha
theorem z19 {s:ByteArray}(h:0<s.size):∃ c t,s.data.toList=c :: t∧s[0]=c:=by
 have hl:0<s.data.toList.length:=by simpa using h
 cases hd:s.data.toList with
 | nil=>rw[hd] at hl;simp at hl
 | cons c t =>
  refine⟨c,t,rfl,?_⟩;have:s.data.toList[0]=c:=by simp [hd]
  rw[← this];simp;rfl
theorem z1a {s:ByteArray}(h:s.size=0):z12 s=false:=by
 have hl:s.data.toList=[]:=List.eq_nil_of_length_eq_zero (by simpa using h)
 unfold z12 z0z;rw[hl];rfl
theorem z1b {s:ByteArray}{c:UInt8}{t:List UInt8}(h:s.data.toList=c :: t)(hc:c=46):z12 s=false:=by
 unfold z12 z0z;rw[h,hc];simp
theorem z1c {s:ByteArray}{c:UInt8}{t:List UInt8}(h:s.data.toList=c :: t)(hc:c≠46):z12 s=s.data.toList.all (fun c=>z0y c.toNat):=by
 unfold z12 z0z;rw[h];simp [hc]
theorem z1d {s:ByteArray}(h:s.data.toList.all (fun c=>z0y c.toNat)=false):z12 s=false:=by
 unfold z12 z0z;rw[h];simp
theorem z1e (s:ByteArray)(w:World)(hs:s.size≤maxLen):
  Calls Tryz.prog 127 #[.string s] w fun e w'=>e=.returned (.bool (z12 s))∧w=w':=by
 unfold maxLen at hs;rcases Nat.eq_zero_or_pos s.size with h0 | h0
 ·have hne:s.toList=[]:=by rw[ByteArray.toList_eq];exact List.eq_nil_of_length_eq_zero (by simpa using h0)
  have H0:=Lib.hid (z1a h0);clear h0;go_enter Tryz.func127,Tryz.ntmps127;go_wp2
  go_ret;exact⟨z13 H0.out.symm,rfl⟩
 ·obtain⟨c,t,hd,hc⟩:=z19 h0;have hne:s.toList.isEmpty=false:=by rw[ByteArray.toList_eq,hd];rfl
  have hne2:¬ s.toList=[]:=by rw[ByteArray.toList_eq,hd];simp
  have HD:=Lib.hid hd;by_cases hc46:c=46
  ·have h46:((s[0].toNat:Int) == 46)=true:=by rw[hc,hc46];rfl
   clear hd hc;go_enter Tryz.func127,Tryz.ntmps127;go_wp2
   go_ret;exact⟨z13 (z1b HD.out hc46).symm,rfl⟩
  ·have h46:((s[0].toNat:Int) == 46)=false:=by
    rw[hc,beq_eq_false_iff_ne];intro h;exact hc46 (UInt8.toNat.inj (show c.toNat=46 by omega))
   have HE:=Lib.hid (z1c HD.out hc46);clear hd hc HD hc46;go_enter Tryz.func127,Tryz.ntmps127;go_wp2
   clear h46;go_loop [13] (fun i=>∃ k:Nat,k≤s.size∧i=.int .i64 k∧(s.data.toList.take k).all (fun c=>z0y c.toNat)=true) (fun i=>s.size - (intOf i).toNat)
   case atStart=>exact⟨0,Nat.zero_le _,rfl,rfl⟩
   case round =>
    obtain⟨k,hk,rfl,hall⟩:=hrel;have HA:=Lib.hid hall;clear hall;by_cases hlt:k<s.size
    ·cases hl:z0y s[k].toNat
     ·have HL:=Lib.hid hl;go_wp2_with (go_at_call 177;refine (z14 _ _).mono ?_;rintro e w' ⟨rfl,rfl⟩)
      go_ret;exact⟨z13 (z1d (z17 s (fun c=>z0y c.toNat) k hlt HL.out)).symm,rfl⟩
     ·have HL:=Lib.hid hl;go_wp2_with (go_at_call 177;refine (z14 _ _).mono ?_;rintro e w' ⟨rfl,rfl⟩)
      go_round
      case rel=>exact⟨k+1,by omega,by go_num,z16 s (fun c=>z0y c.toNat) k hlt HA.out HL.out⟩
      case measure=>simp [intOf];omega
    ·go_wp2
     go_ret;exact⟨z13 (by rw[HE.out,z18 s _ k hlt HA.out]),rfl⟩
def z1f:List UInt8→List (List UInt8)
 | []=>[[]]
 | c :: l=>if c=47 then [] :: z1f l else
  match z1f l with
  | []=>[[c]]
  | p :: ps=>(c :: p) :: ps
theorem z1g (l:List UInt8):z1f l≠[]:=by
 cases l with
 | nil=>simp [z1f]
 | cons c l=>unfold z1f;split;simp;split <;> simp
theorem z1h {a:List UInt8}(h:(47:UInt8)∉a)(r:List UInt8):z1f (a++47 :: r)=a :: z1f r:=by
 induction a with
 | nil=>simp [z1f]
 | cons c a ih =>
  have hc:c≠47:=fun e=>h (by simp [e])
  rw[List.cons_append,z1f,if_neg hc,ih (fun e=>h (by simp [e]))]
theorem z1i {a:List UInt8}(h:(47:UInt8)∉a):z1f a=[a]:=by
 induction a with
 | nil=>rfl
 | cons c a ih =>
  have hc:c≠47:=fun e=>h (by simp [e])
  rw[z1f,if_neg hc,ih (fun e=>h (by simp [e]))]
theorem z1j {l p:List UInt8}(h:p∈z1f l):(47:UInt8)∉p∧p.length≤l.length:=by
 induction l generalizing p with
 | nil=>simp [z1f] at h;subst h;simp
 | cons c l ih =>
  unfold z1f at h;split at h
  ·rcases List.mem_cons.1 h with rfl | h
   ·simp
   ·have:=ih h;exact⟨this.1,by simp;omega⟩
  ·rename_i hc
   split at h
   ·simp at h;subst h;exact⟨by simp;exact fun e=>hc e.symm,by simp⟩
   ·rename_i q qs hq
    rcases List.mem_cons.1 h with rfl | h
    ·have:=ih (p:=q) (by rw[hq];simp)
     exact⟨by simp only[List.mem_cons,not_or];exact⟨fun e=>hc e.symm,this.1⟩,by simp;omega⟩
    ·have:=ih (p:=p) (by rw[hq];simp [h]);exact⟨this.1,by simp;omega⟩
theorem z1k (l:List UInt8):(z1f l).length=l.count 47+1:=by
 induction l with
 | nil=>rfl
 | cons c l ih =>
  unfold z1f;split
  ·rename_i hc;subst hc;simp [ih]
  ·rename_i hc
   rw[List.count_cons,if_neg (by simpa using hc)]
   split
   ·rename_i hq;exact absurd hq (z1g l)
   ·rename_i q qs hq;rw[hq] at ih;simpa using ih
theorem z1l (l:List UInt8):(z1f l).length≤l.length+1:=by
 rw[z1k];have:=List.count_le_length (a:=(47:UInt8)) (l:=l);omega
theorem part (l:List UInt8):(47:UInt8)∉l∨∃ a r,l=a++47 :: r∧(47:UInt8)∉a:=by
 induction l with
 | nil=>left;simp
 | cons c l ih =>
  by_cases hc:c=47
  ·right;exact⟨[],l,by simp [hc],by simp⟩
  ·rcases ih with h | ⟨a,r,rfl,h⟩
   ·left;simp only[List.mem_cons,not_or];exact⟨fun e=>hc e.symm,h⟩
   ·right;exact⟨c :: a,r,by simp,by simp only[List.mem_cons,not_or];exact⟨fun e=>hc e.symm,h⟩⟩
theorem z1m (x:List UInt8)(r:List (List UInt8))(h:r≠[])(sep:List UInt8):Lib.join (x :: r) sep=x++sep++Lib.join r sep:=by
 cases r with
 | nil=>exact absurd rfl h
 | cons y r=>rw[Lib.join_cons,Lib.join_cons];simp [Lib.joinTail]
theorem z1n (l:List UInt8):Lib.join (z1f l) [47]=l:=by
 induction hn:l.length using Nat.strongRecOn generalizing l with
 | _ n ih =>
  rcases part l with h | ⟨a,r,rfl,h⟩
  ·rw[z1i h,Lib.join_one]
  ·rw[z1h h,z1m _ _ (z1g r),ih r.length (by subst hn;simp;omega) r rfl];simp
theorem z1o {l:List UInt8}(h:(47:UInt8)∉l):Lib.index l [47]=-1:=by
 rw[Lib.index_one];have:=Lib.indexByte_ge l 47;by_cases he:Lib.indexByte l 47=-1
 ·exact he
 ·obtain⟨j,hj⟩:∃ j:Nat,Lib.indexByte l 47=(j:Int):=⟨(Lib.indexByte l 47).toNat,by omega⟩
  exact absurd (List.mem_of_getElem? (Lib.indexByte_some hj).1) h
theorem z1p {a:List UInt8}(h:(47:UInt8)∉a)(r:List UInt8):Lib.index (a++47 :: r) [47]=(a.length:Int):=by
 rw[Lib.index_one];have hge:=Lib.indexByte_ge (a++47 :: r) 47;by_cases he:Lib.indexByte (a++47 :: r) 47=-1
 ·exact absurd (by simp) (Lib.indexByte_none he a.length)
 ·obtain⟨j,hj⟩:∃ j:Nat,Lib.indexByte (a++47 :: r) 47=(j:Int):=⟨(Lib.indexByte (a++47 :: r) 47).toNat,by omega⟩
  obtain⟨h1,h2⟩:=Lib.indexByte_some hj;rw[hj];have hja:¬ j<a.length:=fun hlt=>by
   rw[List.getElem?_append_left hlt] at h1;exact h (List.mem_of_getElem? h1)
  have:¬ a.length<j:=fun hlt=>h2 a.length hlt (by simp)
  omega
theorem z1q (s:List UInt8):Lib.splitK [47] 0 (Lib.count s [47]) s=z1f s:=by
 induction hn:s.length using Nat.strongRecOn generalizing s with
 | _ n ih =>
  rcases part s with h | ⟨a,r,rfl,h⟩
  ·rw[Lib.count_miss (z1o h),z1i h];rfl
  ·rw[Lib.count_hit (by simp) (z1p h r),z1h h]
   have hd:(a++47 :: r).drop (a.length+([47]:List UInt8).length)=r:=by
    rw[← List.drop_drop,List.drop_left];rfl
   rw[hd,Nat.add_comm 1];unfold Lib.splitK;rw[if_neg (by rw[z1p h r];simp),z1p h r]
   simp only[Int.toNat_natCast,Nat.add_zero]
   rw[hd,List.take_left,ih r.length (by subst hn;simp;omega) r rfl]
theorem z1r {a b:ByteArray}(h:a.data.toList=b.data.toList):a=b:=by
 cases a with | mk x=>cases b with | mk y =>
 have:x=y:=Array.ext' h;rw[this]
theorem z1s (s:ByteArray):Lib.splitB ⟨#[47]⟩ 0 (Lib.countB s ⟨#[47]⟩) s=(z1f s.data.toList).map (fun p=>(⟨p.toArray⟩:ByteArray)):=by
 have h:=Lib.splitB_data ⟨#[47]⟩ 0 (Lib.countB s ⟨#[47]⟩) s;have e:Lib.splitK (⟨#[47]⟩:ByteArray).data.toList 0 (Lib.countB s ⟨#[47]⟩) s.data.toList=z1f s.data.toList:=z1q s.data.toList;rw[e] at h;rw[← h,List.map_map];conv=>lhs;rw[← List.map_id (Lib.splitB ⟨#[47]⟩ 0 (Lib.countB s ⟨#[47]⟩) s)]
 exact List.map_congr_left fun x _=>z1r rfl
theorem z1t (s:ByteArray):Lib.countB s ⟨#[47]⟩+1=(z1f s.data.toList).length:=by
 rw[z1k];congr 1
 exact Lib.count_one 47 s.data.toList
