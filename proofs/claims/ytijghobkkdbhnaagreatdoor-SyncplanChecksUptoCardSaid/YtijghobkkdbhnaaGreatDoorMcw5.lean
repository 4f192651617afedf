/- A part. -/
import Derived.Test.YtijghobkkdbhnaaGreatDoorMcw3
import Derived.Test.YtijghobkkdbhnaaGreatDoorMcw4
set_option linter.unusedVariables false
set_option linter.unusedSimpArgs false
set_option maxHeartbeats 1000000
namespace Go.Proofs.YtijghobkkdbhnaaGreatDoor
open Go.Proofs.Tryz
open Go.RowKit
structure Syn where
 kind:Int
 path:ByteArray
 num:Int
 frm:ByteArray
 dst:ByteArray
structure Hav where
 path:ByteArray
 num:Int
 loc:ByteArray
def Syn.cells (x:Syn):List Value:=[.int .i64 x.kind,.string x.path,.int .i64 x.num,.string x.frm,.string x.dst]
def Hav.cells (x:Hav):List Value:=[.string x.path,.int .i64 x.num,.string x.loc]
def z3t (k:Int):Bool:=(k == 6) || (k == 5)
def z3u (frm dst:ByteArray):Int:=if frm=z2q then 1 else if dst=z2q then 4 else if frm=dst then 2 else 3
def z3v (p:ByteArray):Bool:=decide (p.size≤200) && z2x p
def Hav.okB (h:Hav):Bool:=z3v h.path && z3v h.loc && decide (1≤h.num)
theorem z3w {w:World}{g:Nat}{e:TypeId}{x:Syn}(h:Blk w g e [.int .i64 x.kind,.string x.path,.int .i64 x.num,.string x.frm,.string x.dst]):w.cell? ⟨g,0,none⟩=some (.int .i64 x.kind)∧w.cell? ⟨g,1,none⟩=some (.string x.path)∧w.cell? ⟨g,2,none⟩=some (.int .i64 x.num)∧w.cell? ⟨g,3,none⟩=some (.string x.frm)∧w.cell? ⟨g,4,none⟩=some (.string x.dst):=
 ⟨h.cell 0,h.cell 1,h.cell 2,h.cell 3,h.cell 4⟩
theorem z3x {w:World}{g:Nat}{e:TypeId}{x:Hav}(h:Blk w g e [.string x.path,.int .i64 x.num,.string x.loc]):w.cell? ⟨g,0,none⟩=some (.string x.path)∧w.cell? ⟨g,1,none⟩=some (.int .i64 x.num)∧w.cell? ⟨g,2,none⟩=some (.string x.loc):=
 ⟨h.cell 0,h.cell 1,h.cell 2⟩
theorem z3y (k:Int):((k == 6)=true∧(k != 6)=false∧z3t k=true)∨((k == 6)=false∧(k != 6)=true∧(k == 5)=true∧(k != 5)=false∧z3t k=true)∨((k == 6)=false∧(k != 6)=true∧(k == 5)=false∧(k != 5)=true∧z3t k=false):=by
 unfold z3t bne;cases (k == 6) <;> cases (k == 5) <;> simp
theorem z3z (x:Syn)(w:World):Calls prog 90 #[.agg #[.int .i64 x.kind,.string x.path,.int .i64 x.num,.string x.frm,.string x.dst]] w fun e w'=>e=.returned (.bool (z3t x.kind))∧zB w w':=by
 have hA:zB w (w.alloc (.cells #[.int .i64 x.kind,.string x.path,.int .i64 x.num,.string x.frm,.string x.dst] 50)):=(Below.refl _ _).alloc (Nat.le_refl _) _;rcases z3y x.kind with⟨h1,h2,h3⟩ | ⟨h1,h2,h3,h4,h5⟩ | ⟨h1,h2,h3,h4,h5⟩
 all_goals
  have HS:=hd_ (by first | exact h5 | exact h3)
  go_enter func90,ntmps90;go_wp2_with fail;go_ret;exact⟨z13 HS.out.symm,hA⟩
theorem z40 {s:ByteArray}(h:s=z2q):s.toList=[]∧(s.toList == (⟨#[]⟩:ByteArray).toList)=true:=by subst h;exact⟨by rw[ByteArray.toList_eq];rfl,beq_self_eq_true _⟩
theorem z41 {s:ByteArray}(h:¬ s=z2q):¬ s.toList=[]∧s.toList.isEmpty=false:=by
 have h1:¬ s.toList=[]:=fun e=>h (by
  rw[ByteArray.toList_eq] at e;cases s with | mk a =>
  unfold z2q;congr 1
  exact Array.toList_eq_nil_iff.1 e)
 exact⟨h1,by cases hh:s.toList;exact absurd hh h1;rfl⟩
theorem z42 (a b:ByteArray):(a.toList == b.toList)=decide (a=b):=by
 rw[Bool.eq_iff_iff,beq_iff_eq,decide_eq_true_eq];constructor
 ·intro h;rw[ByteArray.toList_eq,ByteArray.toList_eq] at h;cases a with | mk x=>cases b with | mk y =>
  congr 1;exact Array.toList_inj.1 h
 ·intro h;rw[h]
theorem z43 (x:Syn)(w:World):Calls prog 46 #[.agg #[.int .i64 x.kind,.string x.path,.int .i64 x.num,.string x.frm,.string x.dst]] w fun e w'=>e=.returned (.int .i64 (z3u x.frm x.dst))∧zB w w':=by
 have hA:zB w (w.alloc (.cells #[.int .i64 x.kind,.string x.path,.int .i64 x.num,.string x.frm,.string x.dst] 50)):=(Below.refl _ _).alloc (Nat.le_refl _) _;by_cases h1:x.frm=z2q
 ·have HK:Hid (z3u x.frm x.dst=1):=hd_ (if_pos h1);obtain⟨s1,s2⟩:=z40 h1;clear h1;go_enter func46,ntmps46;go_wp2_with fail;go_ret;exact⟨by rw[HK.out];rfl,hA⟩
 ·obtain⟨s1,s2⟩:=z41 h1;by_cases h2:x.dst=z2q
  ·have HK:Hid (z3u x.frm x.dst=4):=hd_ (by unfold z3u;rw[if_neg h1,if_pos h2])
   obtain⟨t1,t2⟩:=z40 h2;clear h1 h2;go_enter func46,ntmps46;go_wp2_with fail;go_ret;exact⟨by rw[HK.out];rfl,hA⟩
  ·obtain⟨t1,t2⟩:=z41 h2;have q:=z42 x.frm x.dst;by_cases h3:x.frm=x.dst
   ·have HK:Hid (z3u x.frm x.dst=2):=hd_ (by unfold z3u;rw[if_neg h1,if_neg h2,if_pos h3])
    rw[decide_eq_true h3] at q;clear h1 h2 h3;go_enter func46,ntmps46;go_wp2_with fail;go_ret;exact⟨by rw[HK.out];rfl,hA⟩
   ·have HK:Hid (z3u x.frm x.dst=3):=hd_ (by unfold z3u;rw[if_neg h1,if_neg h2,if_neg h3])
    rw[decide_eq_false h3] at q;clear h1 h2 h3;go_enter func46,ntmps46;go_wp2_with fail;go_ret;exact⟨by rw[HK.out];rfl,hA⟩
theorem z44 (p:ByteArray)(w:World)(hp:p.size≤140737488355328):Calls prog 100 #[.string p] w fun e w'=>e=.returned (.bool (z3v p))∧w=w':=by
 have HV:=hd_ (z3h p w hp);by_cases h:p.size≤200
 ·have q:decide ((p.size:Int)≤200)=true:=by simp;omega
  have HB:Hid (z3v p=z2w p.data.toList):=hd_ (by unfold z3v;rw[decide_eq_true h];rfl)
  generalize z2w p.data.toList=b at HV HB;clear h;go_enter func100,ntmps100;go_wp2_with fail;refine HV.out.mono ?_;rintro e w' ⟨rfl,rfl⟩;go_wp2_with fail;go_ret;exact⟨z13 HB.out.symm,rfl⟩
 ·have q:decide ((p.size:Int)≤200)=false:=by simp;omega
  have HB:Hid (z3v p=false):=hd_ (by unfold z3v;rw[decide_eq_false h];rfl)
  clear h;go_enter func100,ntmps100;go_wp2_with fail;go_ret;exact⟨z13 HB.out.symm,rfl⟩
theorem z45 (p:ByteArray)(w:World)(hp:p.size≤140737488355328):Calls prog 150 #[.string p] w fun e w'=>e=.returned (.bool (z3v p))∧w=w':=by
 have HV:=hd_ (z3h p w hp);by_cases h:p.size≤200
 ·have q:decide ((p.size:Int)≤200)=true:=by simp;omega
  have HB:Hid (z3v p=z2w p.data.toList):=hd_ (by unfold z3v;rw[decide_eq_true h];rfl)
  generalize z2w p.data.toList=b at HV HB;clear h;go_enter func150,ntmps150;go_wp2_with fail;refine HV.out.mono ?_;rintro e w' ⟨rfl,rfl⟩;go_wp2_with fail;go_ret;exact⟨z13 HB.out.symm,rfl⟩
 ·have q:decide ((p.size:Int)≤200)=false:=by simp;omega
  have HB:Hid (z3v p=false):=hd_ (by unfold z3v;rw[decide_eq_false h];rfl)
  clear h;go_enter func150,ntmps150;go_wp2_with fail;go_ret;exact⟨z13 HB.out.symm,rfl⟩
theorem z47 (a b:ByteArray)(w:World)(ha:a.size≤140737488355328)(hb:b.size≤140737488355328):
  Calls prog 55 #[.string a,.string b] w fun e w'=>e=.returned (.int .i64 (z2z a b))∧z3o w w':=by
 have H:=hd_ (z3q a b w ha hb);go_enter func55,ntmps55;go_wp2_with fail;refine H.out.mono ?_;rintro e w' ⟨rfl,hq⟩;go_wp2_with fail;go_ret;exact⟨rfl,hq⟩
theorem z48 (h:Hav)(w:World)(h1:h.path.size≤140737488355328)(h2:h.loc.size≤140737488355328):Calls prog 88 #[.agg #[.string h.path,.int .i64 h.num,.string h.loc]] w fun e w'=>e=.returned (.bool h.okB)∧zB w w':=by
 have hA:zB w (w.alloc (.cells #[.string h.path,.int .i64 h.num,.string h.loc] 96)):=(Below.refl _ _).alloc (Nat.le_refl _) _;have HP:=hd_ (fun X=>z45 h.path X h1);have HL:=hd_ (fun X=>z45 h.loc X h2);have HB:Hid (h.okB=(z3v h.path && z3v h.loc && decide (1≤h.num))):=hd_ rfl;generalize h.okB=b at HB ⊢;cases hb1:z3v h.path with
 | false =>
  rw[hb1] at HP HB;clear hb1;go_enter func88,ntmps88;go_wp2_with fail;refine (HP.out _).mono ?_;rintro e w' ⟨rfl,rfl⟩;go_wp2_with fail;go_ret;exact⟨z13 (by rw[HB.out];rfl),hA⟩
 | true =>
  rw[hb1] at HP HB;clear hb1;cases hb2:z3v h.loc with
  | false =>
   rw[hb2] at HL HB;clear hb2;go_enter func88,ntmps88;go_wp2_with fail;refine (HP.out _).mono ?_;rintro e w' ⟨rfl,rfl⟩;go_wp2_with fail;refine (HL.out _).mono ?_;rintro e w' ⟨rfl,rfl⟩;go_wp2_with fail;go_ret;exact⟨z13 (by rw[HB.out];rfl),hA⟩
  | true =>
   rw[hb2] at HL HB;clear hb2;go_enter func88,ntmps88;go_wp2_with fail;refine (HP.out _).mono ?_;rintro e w' ⟨rfl,rfl⟩;go_wp2_with fail;refine (HL.out _).mono ?_;rintro e w' ⟨rfl,rfl⟩;go_wp2_with fail;go_ret;exact⟨z13 (by rw[HB.out];rfl),hA⟩
theorem z49 (a b:Hav)(w:World)(ha:a.path.size≤140737488355328)(hb:b.path.size≤140737488355328):
  Calls prog 89 #[.agg #[.string a.path,.int .i64 a.num,.string a.loc],.agg #[.string b.path,.int .i64 b.num,.string b.loc]] w fun e w'=>e=.returned (.int .i64 (z2z a.path b.path))∧zB w w':=by
 have H:=hd_ (fun X=>z3q a.path b.path X ha hb);have hA:zB w ((w.alloc (.cells #[.string a.path,.int .i64 a.num,.string a.loc] 96)).alloc (.cells #[.string b.path,.int .i64 b.num,.string b.loc] 96)):=((Below.refl _ _).alloc (Nat.le_refl _) _).alloc (by simp) _
 go_enter func89,ntmps89;go_wp2_with fail;refine (H.out _).mono ?_;rintro e w' ⟨rfl,hq⟩;have HQ:=hd_ (z0r hA (hq.below _));clear hq;go_wp2_with fail;go_ret;exact⟨rfl,HQ.out⟩
def z8q (ps:List (List UInt8)):List UInt8:=[47,47]++Lib.join ps [47]
def z8r (w:World)(bk o:Nat)(ps:List (List UInt8)):Prop:=∀ k (hk:k<ps.length),w.cell? ⟨bk,o+k,none⟩=some (.string (baL ps[k]))
theorem z8r.lt {w:World}{bk o:Nat}{ps:List (List UInt8)}(h:z8r w bk o ps)(h0:0<ps.length):bk<w.heap.size:=z03 (h 0 h0)
theorem z8r.below {w w':World}{bk o:Nat}{ps:List (List UInt8)}(h:z8r w bk o ps)(hb:zB w w'):z8r w' bk o ps:=fun k hk=>z04 (h k hk) hb (z03 (h k hk))
theorem z8r.of_blk {w:World}{g:Nat}{ps:List (List UInt8)}(h:Blk w g 9 (z6x ps)):z8r w g 0 ps:=fun k hk=>by rw[Nat.zero_add];exact h.strs k hk
theorem z8s (ps:List (List UInt8))(j:Nat)(x:ByteArray)(h:(ps.map baL)[j]? = some x):∃ hk:j<ps.length,x=baL ps[j]:=by
 rw[List.getElem?_map] at h;rcases hj:ps[j]? with _ | p
 ·rw[hj] at h;cases h
 ·rw[hj] at h;obtain⟨hk,e⟩:=List.getElem?_eq_some_iff.1 hj;exact⟨hk,by rw[e];simpa using h.symm⟩
theorem z8t (ps:List (List UInt8)):(ps.map baL).map (·.data.toList)=ps:=by
 rw[List.map_map];conv=>rhs;rw[← List.map_id ps]
 exact List.map_congr_left fun p _=>z6y p
theorem z8u (ps:List (List UInt8))(bk o c:Nat)(w:World)(hc:z8r w bk o ps)(h0:0<ps.length)(hcap:ps.length≤c)(hn:ps.length≤2000000)(hlen:(Lib.join ps [47]).length≤10000000000):
  Calls prog 136 #[.slice (some ⟨bk,o,none⟩) ps.length c,.string ⟨#[47]⟩] w fun e w'=>e=.returned (.string (baL (Lib.join ps [47])))∧zB w w':=by
 have H:=Tryz.strings_Join bk o c (ps.map baL) ⟨#[47]⟩ w (fun j x hx=>by obtain⟨hk,rfl⟩:=z8s ps j x hx;exact hc j hk) (hc.lt h0) (by simp;omega) (by simpa using hcap)
  (by rw[z8t];show (Lib.join ps [47]).length≤_;omega)
 rw[z8t,List.length_map] at H;exact H
def letters:List UInt8:=[65,66,67,68,69,70,71,72,73,74,75,76,77,78,79,80,81,82,83,84,85,86,87,88,89,90,97,98,99,100,101,102,103,104,105,106,107,108,109,110,111,112,113,114,115,116,117,118,119,120,121,122,48,49,50,51,52,53,54,55,56,57,95,46,43,45]
theorem z8v:∀ n:Fin 256,decide (Lib.indexByte letters (UInt8.ofNat n.val)<0)=!z0y (n.val:Int):=by decide +kernel
theorem z8w (c:UInt8):decide (Lib.indexByte letters c<0)=!z0y c.toNat:=by
 have:=z8v ⟨c.toNat,c.toNat_lt⟩;simpa using this
theorem z8x (c:UInt8):((c.toNat:Int)).toNat.toUInt8=c:=by simp
theorem z8y (c:UInt8)(w:World)(b:Bool)(h:z0y c.toNat=b):Calls prog 164 #[.string ⟨letters.toArray⟩,.int .u8 c.toNat] w fun e w'=>∃ n:Int,e=.returned (.int .i64 n)∧decide (n<0)=(!b)∧w=w':=by
 refine (Tryz.strings_IndexByte ⟨letters.toArray⟩ c.toNat w).mono ?_;rintro e w' ⟨rfl,rfl⟩;exact⟨_,rfl,by rw[z8x];show decide (Lib.indexByte letters c<0)=_;rw[z8w,h],rfl⟩
theorem z8z (s:ByteArray)(w:World)(hs:s.size≤maxLen):
  Calls prog 109 #[.string s] w fun e w'=>e=.returned (.bool (z12 s))∧w=w':=by
 unfold maxLen at hs;rcases Nat.eq_zero_or_pos s.size with h0 | h0
 ·have hne:s.toList=[]:=by rw[ByteArray.toList_eq];exact List.eq_nil_of_length_eq_zero (by simpa using h0)
  have H0:=hd_ (z1a h0);clear h0;go_enter func109,ntmps109;go_wp2_with fail;go_ret;exact⟨z13 H0.out.symm,rfl⟩
 ·obtain⟨c,t,hd,hc⟩:=z19 h0;have hne:s.toList.isEmpty=false:=by rw[ByteArray.toList_eq,hd];rfl
  have hne2:¬ s.toList=[]:=by rw[ByteArray.toList_eq,hd];simp
  have HD:=hd_ hd;by_cases hc46:c=46
  ·have h46:((s[0].toNat:Int) == 46)=true:=by rw[hc,hc46];rfl
   clear hd hc;go_enter func109,ntmps109;go_wp2_with fail;go_ret;exact⟨z13 (z1b HD.out hc46).symm,rfl⟩
  ·have h46:((s[0].toNat:Int) == 46)=false:=by
    rw[hc,beq_eq_false_iff_ne];intro h;exact hc46 (UInt8.toNat.inj (show c.toNat=46 by omega))
   have HE:=hd_ (z1c HD.out hc46);clear hd hc HD hc46;go_enter func109,ntmps109;go_wp2_with fail;clear h46;go_loop [3] (fun i=>∃ k:Nat,k≤s.size∧i=.int .i64 k∧(s.data.toList.take k).all (fun c=>z0y c.toNat)=true) (fun i=>s.size - (intOf i).toNat)
   case atStart=>exact⟨0,Nat.zero_le _,rfl,rfl⟩
   case round =>
    obtain⟨k,hk,rfl,hall⟩:=hrel;have HA:=hd_ hall;clear hall;by_cases hlt:k<s.size
    ·cases hl:z0y s[k].toNat
     ·have HL:=hd_ hl;clear hl;go_wp2_with fail;refine (z8y s[k] _ _ HL.out).mono ?_;rintro e w' ⟨n,rfl,hn,rfl⟩;have hn':decide (n<0)=true:=hn;clear hn;go_wp2
      go_ret;exact⟨z13 (z1d (z17 s (fun c=>z0y c.toNat) k hlt HL.out)).symm,rfl⟩
     ·have HL:=hd_ hl;clear hl;go_wp2_with fail;refine (z8y s[k] _ _ HL.out).mono ?_;rintro e w' ⟨n,rfl,hn,rfl⟩;have hn':decide (n<0)=false:=hn;clear hn;go_wp2
      go_round
      case rel=>exact⟨k+1,by omega,by go_num,z16 s (fun c=>z0y c.toNat) k hlt HA.out HL.out⟩
      case measure=>simp [intOf];omega
    ·go_wp2_with fail;go_ret;exact⟨z13 (by rw[HE.out,z18 s _ k hlt HA.out]),rfl⟩
theorem z90 {l:List UInt8}{ps:List (List UInt8)}(h:z2v l 1=some ps):Lib.hasPrefix l [47,47]=true∧ps=z1f (l.drop 2)∧ps.all z0z=true:=by
 unfold z2v at h;split at h
 ·rename_i hc;injection h with h;subst h;exact⟨hc.1,rfl,hc.2.2⟩
 ·cases h
theorem z91 {l:List UInt8}(h:z2v l 1=none)(h1:Lib.hasPrefix l [47,47]=true):(z1f (l.drop 2)).all z0z=false:=by
 unfold z2v at h;split at h
 ·cases h
 ·rename_i hc
  cases hh:(z1f (l.drop 2)).all z0z
  ·rfl
  ·exact absurd ⟨h1,by have:=z1g (l.drop 2);cases hs:z1f (l.drop 2) <;> simp_all,hh⟩ hc
theorem z92 {s:ByteArray}(h:Lib.hasPrefix s.data.toList [47,47]=true):2≤s.size:=by
 have:s.data.toList.length=s.size:=rfl;rw[← this];cases hl:s.data.toList with
 | nil=>rw[hl] at h;cases h
 | cons a l=>cases l with
  | nil=>rw[hl] at h;unfold Lib.hasPrefix at h;simp at h
  | cons b l=>simp
theorem hasPR (s p:ByteArray)(w:World)(b:Bool)(h:Lib.hasPrefix s.data.toList p.data.toList=b):Calls prog 126 #[.string s,.string p] w fun e w'=>e=.returned (.bool b)∧w=w':=by
 refine (Tryz.strings_HasPrefix s p w).mono ?_;rintro e w' ⟨rfl,rfl⟩;exact⟨by rw[h],rfl⟩
theorem ext_eq (s:ByteArray)(k:Nat):s.extract k s.size=baL (s.data.toList.drop k):=z1r (by
 rw[z6y];exact Lib.extract_to_end s k)
theorem z93 (s:ByteArray)(k:Nat)(w:World)(he:Env w)(hs:s.size≤2000000):
  Calls prog 226 #[.string (s.extract k s.size),.string ⟨#[47]⟩] w fun e w' =>
   e=.returned (.slice (some ⟨w.heap.size,0,none⟩) (z1f (s.data.toList.drop k)).length (z1f (s.data.toList.drop k)).length)∧w.alloc (.cells (z6x (z1f (s.data.toList.drop k))).toArray 9)=w':=by
 rw[ext_eq];exact z73 (baL (s.data.toList.drop k)) w he (by rw[z6z,List.length_drop];have:s.data.toList.length=s.size:=rfl;omega)
theorem z94 (s:ByteArray)(k:Nat)(hs:s.size≤2000000):(z1f (s.data.toList.drop k)).length≤2000001∧∀ p∈z1f (s.data.toList.drop k),p.length≤2000000:=by
 have h1:=z1l (s.data.toList.drop k);have hl:(s.data.toList.drop k).length≤2000000:=by rw[List.length_drop];have:s.data.toList.length=s.size:=rfl;omega
 exact⟨by omega,fun p hp=>by have:=(z1j hp).2;omega⟩
theorem z95 (s:ByteArray)(ps:List (List UInt8))(w:World)(he:Env w)(hs:s.size≤2000000)(h:z2v s.data.toList 1=some ps):
  Calls prog 203 #[.string s] w fun e w'=>e=.returned (.tuple #[.slice (some ⟨w.heap.size,0,none⟩) ps.length ps.length,.bool true])∧w.alloc (.cells (z6x ps).toArray 9)=w':=by
 obtain⟨h1,rfl,h3⟩:=z90 h;have h2:=z92 h1;have HP:=hd_ (hasPR s ⟨#[47,47]⟩ w true h1);obtain⟨hb1,hb2⟩:=z94 s 2 hs;have HS:=hd_ (z93 s 2 w he hs);clear h h1;generalize z1f (s.data.toList.drop 2)=ps at *;have HB:=hd_ (z0l w (z6x ps) 9);have HM:=hd_ hb2;have HA:=hd_ h3;clear hb2 h3;generalize w.alloc (.cells (z6x ps).toArray 9)=W at HS HB ⊢;go_enter func203,ntmps203;go_wp2_with fail;refine HP.out.mono ?_;rintro e w' ⟨rfl,rfl⟩;go_wp2_with fail;refine HS.out.mono ?_;rintro e w' ⟨rfl,rfl⟩;go_wp2_with fail;go_loop [15] (fun i=>∃ k:Nat,k≤ps.length∧i=.int .i64 k) (fun i=>ps.length - (intOf i).toNat)
 case atStart=>exact⟨0,Nat.zero_le _,rfl⟩
 case round =>
  obtain⟨k,hk,rfl⟩:=hrel;by_cases hlt:k<ps.length
  ·have hcell:=HB.out.strs k hlt;have hc2:=HM.out ps[k] (by simp)
   have hcs:z12 (baL ps[k])=true:=List.all_eq_true.1 HA.out _ (List.getElem_mem hlt);go_wp2_with (go_at_call 109;refine (z8z _ _ (by rw[z6z];unfold maxLen;omega)).mono ?_;rintro e w' ⟨rfl,rfl⟩)
   go_round
   case rel=>exact⟨k+1,by omega,by go_num⟩
   case measure=>simp [intOf];omega
  ·go_wp2
   go_ret2;exact⟨rfl,rfl⟩
theorem z96 (s:ByteArray)(w:World)(he:Env w)(hs:s.size≤2000000)(h:z2v s.data.toList 1=none):
  Calls prog 203 #[.string s] w fun e w'=>e=.returned (.tuple #[.slice none 0 0,.bool false])∧zB w w':=by
 cases h1:Lib.hasPrefix s.data.toList [47,47]
 ·have HP:=hd_ (hasPR s ⟨#[47,47]⟩ w false h1);clear h h1;go_enter func203,ntmps203;go_wp2_with fail;refine HP.out.mono ?_;rintro e w' ⟨rfl,rfl⟩;go_wp2
  go_ret2;exact⟨rfl,Below.refl _ _⟩
 ·have h2:=z92 h1;have HP:=hd_ (hasPR s ⟨#[47,47]⟩ w true h1);have HN:=hd_ (z91 h h1);obtain⟨hb1,hb2⟩:=z94 s 2 hs;have HS:=hd_ (z93 s 2 w he hs);clear h h1;generalize z1f (s.data.toList.drop 2)=ps at *;have HB:=hd_ (z0l w (z6x ps) 9);have HM:=hd_ hb2;have hbw:zB w (w.alloc (.cells (z6x ps).toArray 9)):=(Below.refl _ _).alloc (Nat.le_refl _) _;clear hb2;generalize w.alloc (.cells (z6x ps).toArray 9)=W at HS HB hbw ⊢;go_enter func203,ntmps203;go_wp2_with fail;refine HP.out.mono ?_;rintro e w' ⟨rfl,rfl⟩;go_wp2_with fail;refine HS.out.mono ?_;rintro e w' ⟨rfl,rfl⟩;go_wp2_with fail;go_loop [15] (fun i=>∃ k:Nat,k≤ps.length∧i=.int .i64 k∧(ps.take k).all z0z=true) (fun i=>ps.length - (intOf i).toNat)
  case atStart=>exact⟨0,Nat.zero_le _,rfl,rfl⟩
  case round =>
   obtain⟨k,hk,rfl,hall⟩:=hrel;have HA:=hd_ hall;clear hall;by_cases hlt:k<ps.length
   ·have hcell:=HB.out.strs k hlt;have hc2:=HM.out ps[k] (by simp)
    cases hc1:z0z ps[k]
    ·have hcs:z12 (baL ps[k])=false:=hc1;clear hc1;go_wp2_with (go_at_call 109;refine (z8z _ _ (by rw[z6z];unfold maxLen;omega)).mono ?_;rintro e w' ⟨rfl,rfl⟩)
     go_ret2;exact⟨rfl,hbw⟩
    ·have hcs:z12 (baL ps[k])=true:=hc1;have HD:=hd_ hc1;clear hc1;go_wp2_with (go_at_call 109;refine (z8z _ _ (by rw[z6z];unfold maxLen;omega)).mono ?_;rintro e w' ⟨rfl,rfl⟩)
     go_round
     case rel=>exact⟨k+1,by omega,by go_num,z77 ps z0z k hlt HA.out HD.out⟩
     case measure=>simp [intOf];omega
   ·have:=HA.out;rw[List.take_of_length_le (by omega),HN.out] at this
    cases this
theorem dir_two {l:List UInt8}{ps:List (List UInt8)}(h:z2v l 2=some ps):z2v l 1=some ps∧2≤ps.length:=by
 unfold z2v at h ⊢
 split at h
 ·rename_i hc
  injection h with h
  subst h;exact⟨if_pos ⟨hc.1,by omega,hc.2.2⟩,hc.2.1⟩
 ·cases h
theorem z97 {l:List UInt8}{ps:List (List UInt8)}(h:z2v l 2=none)(h1:z2v l 1=some ps):ps.length<2:=by
 obtain⟨a,rfl,c⟩:=z90 h1;unfold z2v at h;split at h
 ·cases h
 ·rename_i hc
  exact Nat.lt_of_not_le fun hh=>hc ⟨a,hh,c⟩
theorem z98 (s:ByteArray)(ps:List (List UInt8))(w:World)(he:Env w)(hs:s.size≤2000000)(h:z2v s.data.toList 2=some ps):
  Calls prog 152 #[.string s] w fun e w'=>e=.returned (.tuple #[.slice (some ⟨w.heap.size,0,none⟩) ps.length ps.length,.bool true])∧w.alloc (.cells (z6x ps).toArray 9)=w':=by
 obtain⟨h1,h2⟩:=dir_two h;have H:=hd_ (z95 s ps w he hs h1);clear h h1 he;have hd:decide ((ps.length:Int)<2)=false:=by simp;omega
 generalize w.alloc (.cells (z6x ps).toArray 9)=W at H ⊢;go_enter func152,ntmps152;go_wp2_with fail;refine H.out.mono ?_;rintro e w' ⟨rfl,rfl⟩;go_wp2
 go_ret2;exact⟨rfl,rfl⟩
theorem z99 (s:ByteArray)(w:World)(he:Env w)(hs:s.size≤2000000)(h:z2v s.data.toList 2=none):
  Calls prog 152 #[.string s] w fun e w'=>e=.returned (.tuple #[.slice none 0 0,.bool false])∧zB w w':=by
 cases h1:z2v s.data.toList 1 with
 | none =>
  have H:=hd_ (z96 s w he hs h1);clear h h1 he;go_enter func152,ntmps152;go_wp2_with fail;refine H.out.mono ?_;rintro e w' ⟨rfl,hb⟩;go_wp2
  go_ret2;exact⟨rfl,hb⟩
 | some ps =>
  have h2:=z97 h h1;have H:=hd_ (z95 s ps w he hs h1);have hd:decide ((ps.length:Int)<2)=true:=by simp;omega
  have hbw:zB w (w.alloc (.cells (z6x ps).toArray 9)):=(Below.refl _ _).alloc (Nat.le_refl _) _;clear h h1 he;generalize w.alloc (.cells (z6x ps).toArray 9)=W at H hbw;go_enter func152,ntmps152;go_wp2_with fail;refine H.out.mono ?_;rintro e w' ⟨rfl,rfl⟩;go_wp2
  go_ret2;exact⟨rfl,hbw⟩
theorem z9a (ps:List (List UInt8))(bk o c:Nat)(w:World)(hc:z8r w bk o ps)(h0:0<ps.length)(hcap:ps.length≤c)(hn:ps.length≤2000000)(hlen:(Lib.join ps [47]).length≤10000000000):
  Calls prog 231 #[.slice (some ⟨bk,o,none⟩) ps.length c] w fun e w'=>e=.returned (.string (baL (z8q ps)))∧zB w w':=by
 have HJ:=hd_ (z8u ps bk o c w hc h0 hcap hn hlen);clear hc;go_enter func231,ntmps231;go_wp2_with fail;refine HJ.out.mono ?_;rintro e w' ⟨rfl,hb⟩;have hsz:(baL (Lib.join ps [47])).size≤10000000000:=by rw[z6z];exact hlen
 go_wp2
 go_ret;exact⟨congrArg (fun s=>Ending.returned (.string s)) (z1r rfl),hb⟩
