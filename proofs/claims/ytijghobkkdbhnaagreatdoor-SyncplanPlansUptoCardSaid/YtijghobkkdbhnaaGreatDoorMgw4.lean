/- A part. -/
import Derived.Test.YtijghobkkdbhnaaGreatDoorMgw2
import Derived.Test.YtijghobkkdbhnaaGreatDoorShelf
set_option linter.unusedVariables false
set_option linter.unusedSimpArgs false
set_option maxHeartbeats 1000000
namespace Go.Proofs.YtijghobkkdbhnaaGreatDoor
open Go.Proofs.Tryz
open Go.RowKit
def Env (w:World):Prop:=∃ m:Int,w.cell? ⟨0,0,none⟩=some (.int .i64 m)
theorem Env.below {w w':World}(h:Env w)(hb:Below w.heap.size w w'):Env w':=by
 obtain⟨m,hm⟩:=h;exact⟨m,(hb.cell (p:=⟨0,0,none⟩) (z03 hm)).trans hm⟩
theorem Env.alloc {w:World}(h:Env w)(o:Obj):Env (w.alloc o):=h.below ((Below.refl _ _).alloc (Nat.le_refl _) _)
def baL (p:List UInt8):ByteArray:=⟨p.toArray⟩
def z71 (ps:List (List UInt8)):List Value:=ps.map fun p=>.string (baL p)
theorem z73 (p:List UInt8):(baL p).data.toList=p:=rfl
theorem z74 (p:List UInt8):(baL p).size=p.length:=by simp [baL,ByteArray.size]
theorem z77 (s p body:ByteArray)(w:World)(h:Lib.hasPrefix s.data.toList p.data.toList=true)(hb:body.data.toList=s.data.toList.drop p.data.toList.length):
  Calls prog 247 #[.string s,.string p] w fun e w'=>e=.returned (.tuple #[.string body,.bool true])∧w=w':=by
 refine (Tryz.strings_CutPrefix s p w).mono ?_;rintro e w' ⟨rfl,rfl⟩;rw[h];have:(⟨(Lib.trimPrefix s.data.toList p.data.toList).toArray⟩:ByteArray)=body:=z1m (by rw[hb];unfold Lib.trimPrefix;rw[h];rfl)
 rw[this];exact⟨rfl,rfl⟩
theorem cutP_no (s p:ByteArray)(w:World)(h:Lib.hasPrefix s.data.toList p.data.toList=false):
  Calls prog 247 #[.string s,.string p] w fun e w'=>e=.returned (.tuple #[.string s,.bool false])∧w=w':=by
 refine (Tryz.strings_CutPrefix s p w).mono ?_;rintro e w' ⟨rfl,rfl⟩;rw[h];have:(⟨(Lib.trimPrefix s.data.toList p.data.toList).toArray⟩:ByteArray)=s:=z1m (by unfold Lib.trimPrefix;rw[h];rfl)
 rw[this];exact⟨rfl,rfl⟩
theorem z78 (s:ByteArray)(w:World)(he:Env w)(hs:s.size<4294967281):
  Calls prog 226 #[.string s,.string ⟨#[47]⟩] w fun e w' =>
   e=.returned (.slice (some ⟨w.heap.size,0,none⟩) (z1a s.data.toList).length (z1a s.data.toList).length)∧w.alloc (.cells (z71 (z1a s.data.toList)).toArray 9)=w':=by
 obtain⟨m,hm⟩:=he;refine (Tryz.strings_Split s ⟨#[47]⟩ m w hs hm (by decide)).mono ?_
 rintro e w' ⟨rfl,rfl⟩;rw[z1o,z1n];exact⟨rfl,by unfold z71;rw[List.map_map];rfl⟩
theorem Blk.strs {w:World}{g:Nat}{ps:List (List UInt8)}(h:Blk w g 9 (z71 ps))(k:Nat)(hk:k<ps.length):w.cell? ⟨g,k,none⟩=some (.string (baL ps[k])):=by
 rw[h.cell];simp [z71,hk]
theorem z79 (s:ByteArray)(least:Nat)(ps:List (List UInt8))(w:World)(he:Env w)(hs:s.size≤2000000)(hl:least≤2)(h:z2q s.data.toList least=some ps):
  Calls prog 227 #[.string s,.int .i64 least] w fun e w'=>e=.returned (.tuple #[.slice (some ⟨w.heap.size,0,none⟩) ps.length ps.length,.bool true])∧w.alloc (.cells (z71 ps).toArray 9)=w':=by
 unfold z2q at h;split at h
 ·rename_i hc
  obtain⟨h1,h2,h3⟩:=hc;injection h with h
  have hbl:(baL (s.data.toList.drop 2)).size≤2000000:=by rw[z74,List.length_drop];have:s.data.toList.length=s.size:=rfl;omega
  have hmem:∀ p∈ps,z0u p=true∧p.length≤2000000:=fun p hp=>by
   rw[← h] at hp;exact⟨List.all_eq_true.1 h3 p hp,by have:=(z1e hp).2;rw[z74] at hbl;omega⟩
  have HS:=hd_ (z78 (baL (s.data.toList.drop 2)) w he (by omega))
  have HP:=hd_ (z77 s ⟨#[47,47]⟩ (baL (s.data.toList.drop 2)) w h1 rfl);rw[z73,h] at HS;rw[h] at h2;have hlen:ps.length≤2000001:=by rw[← h];have:=z1g (s.data.toList.drop 2);rw[z74] at hbl;omega
  have HM:=hd_ hmem;have hd2:decide (ps.length<least)=false:=by simp;omega
  have hd3:decide ((ps.length:Int)<(least:Int))=false:=by simp;omega
  have HB:=hd_ (z0l w (z71 ps) 9);clear h h1 h3 hmem;generalize w.alloc (.cells (z71 ps).toArray 9)=W at HS HB ⊢;go_enter func227,ntmps227;go_wp2_with fail;refine HP.out.mono ?_;rintro e w' ⟨rfl,rfl⟩;go_wp2_with fail;refine HS.out.mono ?_;rintro e w' ⟨rfl,rfl⟩;go_wp2
  go_loop [26] (fun i=>∃ k:Nat,k≤ps.length∧i=.int .i64 k) (fun i=>ps.length - (intOf i).toNat)
  case atStart=>exact⟨0,Nat.zero_le _,rfl⟩
  case round =>
   obtain⟨k,hk,rfl⟩:=hrel;by_cases hlt:k<ps.length
   ·have hcell:=HB.out.strs k hlt;obtain⟨hc1,hc2⟩:=HM.out ps[k] (by simp)
    have hcs:z0v (baL ps[k])=true:=hc1;go_wp2_with (go_at_call 127;refine (z19 _ _ (by rw[z74];unfold maxLen;omega)).mono ?_;rintro e w' ⟨rfl,rfl⟩)
    go_round
    case rel=>exact⟨k+1,by omega,by go_num⟩
    case measure=>simp [intOf];omega
   ·go_wp2
    go_ret2;exact⟨rfl,rfl⟩
 ·cases h
theorem z7a {α:Type}(ps:List α)(f:α→Bool)(k:Nat)(hk:k<ps.length)(h:(ps.take k).all f=true)(hf:f ps[k]=true):(ps.take (k+1)).all f=true:=by
 rw[List.take_succ_eq_append_getElem hk,List.all_append,h];simp [hf]
theorem z7b (s:ByteArray)(least:Nat)(w:World)(he:Env w)(hs:s.size≤2000000)(h:z2q s.data.toList least=none):
  Calls prog 227 #[.string s,.int .i64 least] w fun e w'=>e=.returned (.tuple #[.slice none 0 0,.bool false])∧Below w.heap.size w w':=by
 cases h1:Lib.hasPrefix s.data.toList [47,47]
 ·have HP:=hd_ (cutP_no s ⟨#[47,47]⟩ w h1);clear h h1;go_enter func227,ntmps227;go_wp2_with fail;refine HP.out.mono ?_;rintro e w' ⟨rfl,rfl⟩;go_wp2
  go_ret2;exact⟨rfl,Below.refl _ _⟩
 ·have hbl:(baL (s.data.toList.drop 2)).size≤2000000:=by rw[z74,List.length_drop];have:s.data.toList.length=s.size:=rfl;omega
  have HS:=hd_ (z78 (baL (s.data.toList.drop 2)) w he (by omega))
  have HP:=hd_ (z77 s ⟨#[47,47]⟩ (baL (s.data.toList.drop 2)) w h1 rfl);rw[z73] at HS;have hmem:∀ p∈z1a (s.data.toList.drop 2),p.length≤2000000:=fun p hp=>by
   have:=(z1e hp).2;rw[z74] at hbl;omega
  have hlen:(z1a (s.data.toList.drop 2)).length≤2000001:=by have:=z1g (s.data.toList.drop 2);rw[z74] at hbl;omega
  have hno:¬(least≤(z1a (s.data.toList.drop 2)).length∧(z1a (s.data.toList.drop 2)).all z0u=true):=fun hc=>by
   unfold z2q at h;rw[if_pos ⟨h1,hc⟩] at h;cases h
  clear h h1;generalize z1a (s.data.toList.drop 2)=ps at HS hmem hlen hno;have HB:=hd_ (z0l w (z71 ps) 9);have HM:=hd_ hmem;have hbw:Below w.heap.size w (w.alloc (.cells (z71 ps).toArray 9)):=(Below.refl _ _).alloc (Nat.le_refl _) _;clear hmem;by_cases h2:least≤ps.length
  ·have hd2:decide (ps.length<least)=false:=by simp;omega
   have hd3:decide ((ps.length:Int)<(least:Int))=false:=by simp;omega
   have hno':ps.all z0u=false:=by cases hh:ps.all z0u;rfl;exact absurd ⟨h2,hh⟩ hno
   have HN:=hd_ hno';clear hno hno';generalize w.alloc (.cells (z71 ps).toArray 9)=W at HS HB hbw;go_enter func227,ntmps227;go_wp2_with fail;refine HP.out.mono ?_;rintro e w' ⟨rfl,rfl⟩;go_wp2_with fail;refine HS.out.mono ?_;rintro e w' ⟨rfl,rfl⟩;go_wp2
   go_loop [26] (fun i=>∃ k:Nat,k≤ps.length∧i=.int .i64 k∧(ps.take k).all z0u=true) (fun i=>ps.length - (intOf i).toNat)
   case atStart=>exact⟨0,Nat.zero_le _,rfl,rfl⟩
   case round =>
    obtain⟨k,hk,rfl,hall⟩:=hrel;have HA:=hd_ hall;clear hall;by_cases hlt:k<ps.length
    ·have hcell:=HB.out.strs k hlt;have hc2:=HM.out ps[k] (by simp)
     cases hc1:z0u ps[k]
     ·have hcs:z0v (baL ps[k])=false:=hc1;clear hc1;go_wp2_with (go_at_call 127;refine (z19 _ _ (by rw[z74];unfold maxLen;omega)).mono ?_;rintro e w' ⟨rfl,rfl⟩)
      go_ret2;exact⟨rfl,hbw⟩
     ·have hcs:z0v (baL ps[k])=true:=hc1;have HC:=hd_ hc1;clear hc1;go_wp2_with (go_at_call 127;refine (z19 _ _ (by rw[z74];unfold maxLen;omega)).mono ?_;rintro e w' ⟨rfl,rfl⟩)
      go_round
      case rel=>exact⟨k+1,by omega,by go_num,z7a ps z0u k hlt HA.out HC.out⟩
      case measure=>simp [intOf];omega
    ·have:=HA.out;rw[List.take_of_length_le (by omega),HN.out] at this
     cases this
  ·have hd2:decide (ps.length<least)=true:=by simp;omega
   have hd3:decide ((ps.length:Int)<(least:Int))=true:=by simp;omega
   clear hno;generalize w.alloc (.cells (z71 ps).toArray 9)=W at HS HB hbw;go_enter func227,ntmps227;go_wp2_with fail;refine HP.out.mono ?_;rintro e w' ⟨rfl,rfl⟩;go_wp2_with fail;refine HS.out.mono ?_;rintro e w' ⟨rfl,rfl⟩;go_wp2
   go_ret2;exact⟨rfl,hbw⟩
theorem z7c (s:ByteArray)(ps:List (List UInt8))(w:World)(he:Env w)(hs:s.size≤2000000)(h:z2q s.data.toList 2=some ps):
  Calls prog 189 #[.string s] w fun e w'=>e=.returned (.tuple #[.slice (some ⟨w.heap.size,0,none⟩) ps.length ps.length,.int .i64 0])∧w.alloc (.cells (z71 ps).toArray 9)=w':=by
 have H:=hd_ (z79 s 2 ps w he hs (by omega) h)
 generalize w.alloc (.cells (z71 ps).toArray 9)=W at H ⊢;clear h he;go_enter func189,ntmps189;go_wp2_with fail;refine H.out.mono ?_;rintro e w' ⟨rfl,rfl⟩;go_wp2
 go_ret2;exact⟨rfl,rfl⟩
theorem z7d (s:ByteArray)(w:World)(he:Env w)(hs:s.size≤2000000)(h:z2q s.data.toList 2=none):
  Calls prog 189 #[.string s] w fun e w'=>e=.returned (.tuple #[.slice none 0 0,.int .i64 20])∧Below w.heap.size w w':=by
 have H:=hd_ (z7b s 2 w he hs h);clear h he;go_enter func189,ntmps189;go_wp2_with fail;refine H.out.mono ?_;rintro e w' ⟨rfl,hb⟩;go_wp2
 go_ret2;exact⟨rfl,hb⟩
def z8o (ps:List (List UInt8)):List UInt8:=[47,47]++Lib.join ps [47]
def z8p (w:World)(bk o:Nat)(ps:List (List UInt8)):Prop:=∀ k (hk:k<ps.length),w.cell? ⟨bk,o+k,none⟩=some (.string (baL ps[k]))
theorem z8p.lt {w:World}{bk o:Nat}{ps:List (List UInt8)}(h:z8p w bk o ps)(h0:0<ps.length):bk<w.heap.size:=z03 (h 0 h0)
theorem z8p.below {w w':World}{bk o:Nat}{ps:List (List UInt8)}(h:z8p w bk o ps)(hb:Below w.heap.size w w'):z8p w' bk o ps:=fun k hk=>z04 (h k hk) hb (z03 (h k hk))
theorem z8p.of_blk {w:World}{g:Nat}{ps:List (List UInt8)}(h:Blk w g 9 (z71 ps)):z8p w g 0 ps:=fun k hk=>by rw[Nat.zero_add];exact h.strs k hk
theorem z8q (ps:List (List UInt8))(j:Nat)(x:ByteArray)(h:(ps.map baL)[j]? = some x):∃ hk:j<ps.length,x=baL ps[j]:=by
 rw[List.getElem?_map] at h;rcases hj:ps[j]? with _ | p
 ·rw[hj] at h;cases h
 ·rw[hj] at h;obtain⟨hk,e⟩:=List.getElem?_eq_some_iff.1 hj;exact⟨hk,by rw[e];simpa using h.symm⟩
theorem z8r (ps:List (List UInt8)):(ps.map baL).map (·.data.toList)=ps:=by
 rw[List.map_map];conv=>rhs;rw[← List.map_id ps]
 exact List.map_congr_left fun p _=>z73 p
theorem z8s (ps:List (List UInt8))(bk o c:Nat)(w:World)(hc:z8p w bk o ps)(h0:0<ps.length)(hcap:ps.length≤c)(hn:ps.length≤2000000)(hlen:(Lib.join ps [47]).length≤10000000000):
  Calls prog 136 #[.slice (some ⟨bk,o,none⟩) ps.length c,.string ⟨#[47]⟩] w fun e w'=>e=.returned (.string (baL (Lib.join ps [47])))∧Below w.heap.size w w':=by
 have H:=Tryz.strings_Join bk o c (ps.map baL) ⟨#[47]⟩ w (fun j x hx=>by obtain⟨hk,rfl⟩:=z8q ps j x hx;exact hc j hk) (hc.lt h0) (by simp;omega) (by simpa using hcap)
  (by rw[z8r];show (Lib.join ps [47]).length≤_;omega)
 rw[z8r,List.length_map] at H;exact H
def letters:List UInt8:=[65,66,67,68,69,70,71,72,73,74,75,76,77,78,79,80,81,82,83,84,85,86,87,88,89,90,97,98,99,100,101,102,103,104,105,106,107,108,109,110,111,112,113,114,115,116,117,118,119,120,121,122,48,49,50,51,52,53,54,55,56,57,95,46,43,45]
theorem z8t:∀ n:Fin 256,decide (Lib.indexByte letters (UInt8.ofNat n.val)<0)=!z0t (n.val:Int):=by decide +kernel
theorem z8u (c:UInt8):decide (Lib.indexByte letters c<0)=!z0t c.toNat:=by
 have:=z8t ⟨c.toNat,c.toNat_lt⟩;simpa using this
theorem z8v (c:UInt8):((c.toNat:Int)).toNat.toUInt8=c:=by simp
theorem z8w (c:UInt8)(w:World)(b:Bool)(h:z0t c.toNat=b):Calls prog 164 #[.string ⟨letters.toArray⟩,.int .u8 c.toNat] w fun e w'=>∃ n:Int,e=.returned (.int .i64 n)∧decide (n<0)=(!b)∧w=w':=by
 refine (Tryz.strings_IndexByte ⟨letters.toArray⟩ c.toNat w).mono ?_;rintro e w' ⟨rfl,rfl⟩;exact⟨_,rfl,by rw[z8v];show decide (Lib.indexByte letters c<0)=_;rw[z8u,h],rfl⟩
theorem z8x (s:ByteArray)(w:World)(hs:s.size≤maxLen):
  Calls prog 109 #[.string s] w fun e w'=>e=.returned (.bool (z0v s))∧w=w':=by
 unfold maxLen at hs;rcases Nat.eq_zero_or_pos s.size with h0 | h0
 ·have hne:s.toList=[]:=by rw[ByteArray.toList_eq];exact List.eq_nil_of_length_eq_zero (by simpa using h0)
  have H0:=hd_ (z15 h0);clear h0;go_enter func109,ntmps109;go_wp2_with fail;go_ret;exact⟨z0w H0.out.symm,rfl⟩
 ·obtain⟨c,t,hd,hc⟩:=z14 h0;have hne:s.toList.isEmpty=false:=by rw[ByteArray.toList_eq,hd];rfl
  have hne2:¬ s.toList=[]:=by rw[ByteArray.toList_eq,hd];simp
  have HD:=hd_ hd;by_cases hc46:c=46
  ·have h46:((s[0].toNat:Int) == 46)=true:=by rw[hc,hc46];rfl
   clear hd hc;go_enter func109,ntmps109;go_wp2_with fail;go_ret;exact⟨z0w (z16 HD.out hc46).symm,rfl⟩
  ·have h46:((s[0].toNat:Int) == 46)=false:=by
    rw[hc,beq_eq_false_iff_ne];intro h;exact hc46 (UInt8.toNat.inj (show c.toNat=46 by omega))
   have HE:=hd_ (z17 HD.out hc46);clear hd hc HD hc46;go_enter func109,ntmps109;go_wp2_with fail;clear h46;go_loop [3] (fun i=>∃ k:Nat,k≤s.size∧i=.int .i64 k∧(s.data.toList.take k).all (fun c=>z0t c.toNat)=true) (fun i=>s.size - (intOf i).toNat)
   case atStart=>exact⟨0,Nat.zero_le _,rfl,rfl⟩
   case round =>
    obtain⟨k,hk,rfl,hall⟩:=hrel;have HA:=hd_ hall;clear hall;by_cases hlt:k<s.size
    ·cases hl:z0t s[k].toNat
     ·have HL:=hd_ hl;clear hl;go_wp2_with fail;refine (z8w s[k] _ _ HL.out).mono ?_;rintro e w' ⟨n,rfl,hn,rfl⟩;have hn':decide (n<0)=true:=hn;clear hn;go_wp2
      go_ret;exact⟨z0w (z18 (z12 s (fun c=>z0t c.toNat) k hlt HL.out)).symm,rfl⟩
     ·have HL:=hd_ hl;clear hl;go_wp2_with fail;refine (z8w s[k] _ _ HL.out).mono ?_;rintro e w' ⟨n,rfl,hn,rfl⟩;have hn':decide (n<0)=false:=hn;clear hn;go_wp2
      go_round
      case rel=>exact⟨k+1,by omega,by go_num,z0z s (fun c=>z0t c.toNat) k hlt HA.out HL.out⟩
      case measure=>simp [intOf];omega
    ·go_wp2_with fail;go_ret;exact⟨z0w (by rw[HE.out,z13 s _ k hlt HA.out]),rfl⟩
theorem z8y {l:List UInt8}{ps:List (List UInt8)}(h:z2q l 1=some ps):Lib.hasPrefix l [47,47]=true∧ps=z1a (l.drop 2)∧ps.all z0u=true:=by
 unfold z2q at h;split at h
 ·rename_i hc;injection h with h;subst h;exact⟨hc.1,rfl,hc.2.2⟩
 ·cases h
theorem z8z {l:List UInt8}(h:z2q l 1=none)(h1:Lib.hasPrefix l [47,47]=true):(z1a (l.drop 2)).all z0u=false:=by
 unfold z2q at h;split at h
 ·cases h
 ·rename_i hc
  cases hh:(z1a (l.drop 2)).all z0u
  ·rfl
  ·exact absurd ⟨h1,by have:=z1b (l.drop 2);cases hs:z1a (l.drop 2) <;> simp_all,hh⟩ hc
theorem z90 {s:ByteArray}(h:Lib.hasPrefix s.data.toList [47,47]=true):2≤s.size:=by
 have:s.data.toList.length=s.size:=rfl;rw[← this];cases hl:s.data.toList with
 | nil=>rw[hl] at h;cases h
 | cons a l=>cases l with
  | nil=>rw[hl] at h;unfold Lib.hasPrefix at h;simp at h
  | cons b l=>simp
theorem hasPR (s p:ByteArray)(w:World)(b:Bool)(h:Lib.hasPrefix s.data.toList p.data.toList=b):Calls prog 126 #[.string s,.string p] w fun e w'=>e=.returned (.bool b)∧w=w':=by
 refine (Tryz.strings_HasPrefix s p w).mono ?_;rintro e w' ⟨rfl,rfl⟩;exact⟨by rw[h],rfl⟩
theorem ext_eq (s:ByteArray)(k:Nat):s.extract k s.size=baL (s.data.toList.drop k):=z1m (by
 rw[z73];exact Lib.extract_to_end s k)
theorem z91 (s:ByteArray)(k:Nat)(w:World)(he:Env w)(hs:s.size≤2000000):
  Calls prog 226 #[.string (s.extract k s.size),.string ⟨#[47]⟩] w fun e w' =>
   e=.returned (.slice (some ⟨w.heap.size,0,none⟩) (z1a (s.data.toList.drop k)).length (z1a (s.data.toList.drop k)).length)∧w.alloc (.cells (z71 (z1a (s.data.toList.drop k))).toArray 9)=w':=by
 rw[ext_eq];exact z78 (baL (s.data.toList.drop k)) w he (by rw[z74,List.length_drop];have:s.data.toList.length=s.size:=rfl;omega)
theorem z92 (s:ByteArray)(k:Nat)(hs:s.size≤2000000):(z1a (s.data.toList.drop k)).length≤2000001∧∀ p∈z1a (s.data.toList.drop k),p.length≤2000000:=by
 have h1:=z1g (s.data.toList.drop k);have hl:(s.data.toList.drop k).length≤2000000:=by rw[List.length_drop];have:s.data.toList.length=s.size:=rfl;omega
 exact⟨by omega,fun p hp=>by have:=(z1e hp).2;omega⟩
theorem z93 (s:ByteArray)(ps:List (List UInt8))(w:World)(he:Env w)(hs:s.size≤2000000)(h:z2q s.data.toList 1=some ps):
  Calls prog 203 #[.string s] w fun e w'=>e=.returned (.tuple #[.slice (some ⟨w.heap.size,0,none⟩) ps.length ps.length,.bool true])∧w.alloc (.cells (z71 ps).toArray 9)=w':=by
 obtain⟨h1,rfl,h3⟩:=z8y h;have h2:=z90 h1;have HP:=hd_ (hasPR s ⟨#[47,47]⟩ w true h1);obtain⟨hb1,hb2⟩:=z92 s 2 hs;have HS:=hd_ (z91 s 2 w he hs);clear h h1;generalize z1a (s.data.toList.drop 2)=ps at *;have HB:=hd_ (z0l w (z71 ps) 9);have HM:=hd_ hb2;have HA:=hd_ h3;clear hb2 h3;generalize w.alloc (.cells (z71 ps).toArray 9)=W at HS HB ⊢;go_enter func203,ntmps203;go_wp2_with fail;refine HP.out.mono ?_;rintro e w' ⟨rfl,rfl⟩;go_wp2_with fail;refine HS.out.mono ?_;rintro e w' ⟨rfl,rfl⟩;go_wp2_with fail;go_loop [15] (fun i=>∃ k:Nat,k≤ps.length∧i=.int .i64 k) (fun i=>ps.length - (intOf i).toNat)
 case atStart=>exact⟨0,Nat.zero_le _,rfl⟩
 case round =>
  obtain⟨k,hk,rfl⟩:=hrel;by_cases hlt:k<ps.length
  ·have hcell:=HB.out.strs k hlt;have hc2:=HM.out ps[k] (by simp)
   have hcs:z0v (baL ps[k])=true:=List.all_eq_true.1 HA.out _ (List.getElem_mem hlt);go_wp2_with (go_at_call 109;refine (z8x _ _ (by rw[z74];unfold maxLen;omega)).mono ?_;rintro e w' ⟨rfl,rfl⟩)
   go_round
   case rel=>exact⟨k+1,by omega,by go_num⟩
   case measure=>simp [intOf];omega
  ·go_wp2
   go_ret2;exact⟨rfl,rfl⟩
theorem z94 (s:ByteArray)(w:World)(he:Env w)(hs:s.size≤2000000)(h:z2q s.data.toList 1=none):
  Calls prog 203 #[.string s] w fun e w'=>e=.returned (.tuple #[.slice none 0 0,.bool false])∧Below w.heap.size w w':=by
 cases h1:Lib.hasPrefix s.data.toList [47,47]
 ·have HP:=hd_ (hasPR s ⟨#[47,47]⟩ w false h1);clear h h1;go_enter func203,ntmps203;go_wp2_with fail;refine HP.out.mono ?_;rintro e w' ⟨rfl,rfl⟩;go_wp2
  go_ret2;exact⟨rfl,Below.refl _ _⟩
 ·have h2:=z90 h1;have HP:=hd_ (hasPR s ⟨#[47,47]⟩ w true h1);have HN:=hd_ (z8z h h1);obtain⟨hb1,hb2⟩:=z92 s 2 hs;have HS:=hd_ (z91 s 2 w he hs);clear h h1;generalize z1a (s.data.toList.drop 2)=ps at *;have HB:=hd_ (z0l w (z71 ps) 9);have HM:=hd_ hb2;have hbw:Below w.heap.size w (w.alloc (.cells (z71 ps).toArray 9)):=(Below.refl _ _).alloc (Nat.le_refl _) _;clear hb2;generalize w.alloc (.cells (z71 ps).toArray 9)=W at HS HB hbw ⊢;go_enter func203,ntmps203;go_wp2_with fail;refine HP.out.mono ?_;rintro e w' ⟨rfl,rfl⟩;go_wp2_with fail;refine HS.out.mono ?_;rintro e w' ⟨rfl,rfl⟩;go_wp2_with fail;go_loop [15] (fun i=>∃ k:Nat,k≤ps.length∧i=.int .i64 k∧(ps.take k).all z0u=true) (fun i=>ps.length - (intOf i).toNat)
  case atStart=>exact⟨0,Nat.zero_le _,rfl,rfl⟩
  case round =>
   obtain⟨k,hk,rfl,hall⟩:=hrel;have HA:=hd_ hall;clear hall;by_cases hlt:k<ps.length
   ·have hcell:=HB.out.strs k hlt;have hc2:=HM.out ps[k] (by simp)
    cases hc1:z0u ps[k]
    ·have hcs:z0v (baL ps[k])=false:=hc1;clear hc1;go_wp2_with (go_at_call 109;refine (z8x _ _ (by rw[z74];unfold maxLen;omega)).mono ?_;rintro e w' ⟨rfl,rfl⟩)
     go_ret2;exact⟨rfl,hbw⟩
    ·have hcs:z0v (baL ps[k])=true:=hc1;have HD:=hd_ hc1;clear hc1;go_wp2_with (go_at_call 109;refine (z8x _ _ (by rw[z74];unfold maxLen;omega)).mono ?_;rintro e w' ⟨rfl,rfl⟩)
     go_round
     case rel=>exact⟨k+1,by omega,by go_num,z7a ps z0u k hlt HA.out HD.out⟩
     case measure=>simp [intOf];omega
   ·have:=HA.out;rw[List.take_of_length_le (by omega),HN.out] at this
    cases this
theorem dir_two {l:List UInt8}{ps:List (List UInt8)}(h:z2q l 2=some ps):z2q l 1=some ps∧2≤ps.length:=by
 unfold z2q at h ⊢
 split at h
 ·rename_i hc
  injection h with h
  subst h;exact⟨if_pos ⟨hc.1,by omega,hc.2.2⟩,hc.2.1⟩
 ·cases h
theorem z95 {l:List UInt8}{ps:List (List UInt8)}(h:z2q l 2=none)(h1:z2q l 1=some ps):ps.length<2:=by
 obtain⟨a,rfl,c⟩:=z8y h1;unfold z2q at h;split at h
 ·cases h
 ·rename_i hc
  exact Nat.lt_of_not_le fun hh=>hc ⟨a,hh,c⟩
theorem z96 (s:ByteArray)(ps:List (List UInt8))(w:World)(he:Env w)(hs:s.size≤2000000)(h:z2q s.data.toList 2=some ps):
  Calls prog 152 #[.string s] w fun e w'=>e=.returned (.tuple #[.slice (some ⟨w.heap.size,0,none⟩) ps.length ps.length,.bool true])∧w.alloc (.cells (z71 ps).toArray 9)=w':=by
 obtain⟨h1,h2⟩:=dir_two h;have H:=hd_ (z93 s ps w he hs h1);clear h h1 he;have hd:decide ((ps.length:Int)<2)=false:=by simp;omega
 generalize w.alloc (.cells (z71 ps).toArray 9)=W at H ⊢;go_enter func152,ntmps152;go_wp2_with fail;refine H.out.mono ?_;rintro e w' ⟨rfl,rfl⟩;go_wp2
 go_ret2;exact⟨rfl,rfl⟩
theorem z97 (s:ByteArray)(w:World)(he:Env w)(hs:s.size≤2000000)(h:z2q s.data.toList 2=none):
  Calls prog 152 #[.string s] w fun e w'=>e=.returned (.tuple #[.slice none 0 0,.bool false])∧Below w.heap.size w w':=by
 cases h1:z2q s.data.toList 1 with
 | none =>
  have H:=hd_ (z94 s w he hs h1);clear h h1 he;go_enter func152,ntmps152;go_wp2_with fail;refine H.out.mono ?_;rintro e w' ⟨rfl,hb⟩;go_wp2
  go_ret2;exact⟨rfl,hb⟩
 | some ps =>
  have h2:=z95 h h1;have H:=hd_ (z93 s ps w he hs h1);have hd:decide ((ps.length:Int)<2)=true:=by simp;omega
  have hbw:Below w.heap.size w (w.alloc (.cells (z71 ps).toArray 9)):=(Below.refl _ _).alloc (Nat.le_refl _) _;clear h h1 he;generalize w.alloc (.cells (z71 ps).toArray 9)=W at H hbw;go_enter func152,ntmps152;go_wp2_with fail;refine H.out.mono ?_;rintro e w' ⟨rfl,rfl⟩;go_wp2
  go_ret2;exact⟨rfl,hbw⟩
theorem z98 (ps:List (List UInt8))(bk o c:Nat)(w:World)(hc:z8p w bk o ps)(h0:0<ps.length)(hcap:ps.length≤c)(hn:ps.length≤2000000)(hlen:(Lib.join ps [47]).length≤10000000000):
  Calls prog 231 #[.slice (some ⟨bk,o,none⟩) ps.length c] w fun e w'=>e=.returned (.string (baL (z8o ps)))∧Below w.heap.size w w':=by
 have HJ:=hd_ (z8s ps bk o c w hc h0 hcap hn hlen);clear hc;go_enter func231,ntmps231;go_wp2_with fail;refine HJ.out.mono ?_;rintro e w' ⟨rfl,hb⟩;have hsz:(baL (Lib.join ps [47])).size≤10000000000:=by rw[z74];exact hlen
 go_wp2
 go_ret;exact⟨congrArg (fun s=>Ending.returned (.string s)) (z1m rfl),hb⟩
