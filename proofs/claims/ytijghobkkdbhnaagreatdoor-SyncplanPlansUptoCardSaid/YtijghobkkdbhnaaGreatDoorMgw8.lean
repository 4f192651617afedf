/- A part. -/
import Derived.Test.YtijghobkkdbhnaaGreatDoorMgw5
import Derived.Test.YtijghobkkdbhnaaGreatDoorMgw3
import Derived.Test.YtijghobkkdbhnaaGreatDoorMgw4
import Derived.Laws.EntriesVeiled
set_option linter.unusedVariables false
set_option linter.unusedSimpArgs false
set_option maxHeartbeats 4000000
set_option maxRecDepth 100000
namespace Go.Proofs.YtijghobkkdbhnaaGreatDoor
open Go.Proofs.Tryz
open Go.RowKit
structure Syn where
 kind:Int
 path:ByteArray
 num:Int
 frm:ByteArray
 dst:ByteArray
structure Hav where
 path:ByteArray
 num:Int
 loc:ByteArray
def Syn.cells (x:Syn):List Value:=[.int .i64 x.kind,.string x.path,.int .i64 x.num,.string x.frm,.string x.dst]
def Hav.cells (x:Hav):List Value:=[.string x.path,.int .i64 x.num,.string x.loc]
def z3o (k:Int):Bool:=(k == 6) || (k == 5)
def z3p (frm dst:ByteArray):Int:=if frm=z2l then 1 else if dst=z2l then 4 else if frm=dst then 2 else 3
def z3q (p:ByteArray):Bool:=decide (p.size≤200) && z2s p
def Hav.okB (h:Hav):Bool:=z3q h.path && z3q h.loc && decide (1≤h.num)
theorem z3r {w:World}{g:Nat}{e:TypeId}{x:Syn}(h:Blk w g e [.int .i64 x.kind,.string x.path,.int .i64 x.num,.string x.frm,.string x.dst]):w.cell? ⟨g,0,none⟩=some (.int .i64 x.kind)∧w.cell? ⟨g,1,none⟩=some (.string x.path)∧w.cell? ⟨g,2,none⟩=some (.int .i64 x.num)∧w.cell? ⟨g,3,none⟩=some (.string x.frm)∧w.cell? ⟨g,4,none⟩=some (.string x.dst):=
 ⟨h.cell 0,h.cell 1,h.cell 2,h.cell 3,h.cell 4⟩
theorem z3s {w:World}{g:Nat}{e:TypeId}{x:Hav}(h:Blk w g e [.string x.path,.int .i64 x.num,.string x.loc]):w.cell? ⟨g,0,none⟩=some (.string x.path)∧w.cell? ⟨g,1,none⟩=some (.int .i64 x.num)∧w.cell? ⟨g,2,none⟩=some (.string x.loc):=
 ⟨h.cell 0,h.cell 1,h.cell 2⟩
theorem z3t (k:Int):((k == 6)=true∧(k != 6)=false∧z3o k=true)∨((k == 6)=false∧(k != 6)=true∧(k == 5)=true∧(k != 5)=false∧z3o k=true)∨((k == 6)=false∧(k != 6)=true∧(k == 5)=false∧(k != 5)=true∧z3o k=false):=by
 unfold z3o bne;cases (k == 6) <;> cases (k == 5) <;> simp
theorem z3u (x:Syn)(w:World):Calls prog 90 #[.agg #[.int .i64 x.kind,.string x.path,.int .i64 x.num,.string x.frm,.string x.dst]] w fun e w'=>e=.returned (.bool (z3o x.kind))∧Below w.heap.size w w':=by
 have hA:Below w.heap.size w (w.alloc (.cells #[.int .i64 x.kind,.string x.path,.int .i64 x.num,.string x.frm,.string x.dst] 50)):=(Below.refl _ _).alloc (Nat.le_refl _) _;rcases z3t x.kind with⟨h1,h2,h3⟩ | ⟨h1,h2,h3,h4,h5⟩ | ⟨h1,h2,h3,h4,h5⟩
 all_goals
  have HS:=hd_ (by first | exact h5 | exact h3)
  go_enter func90,ntmps90;go_wp2_with fail;go_ret;exact⟨z0w HS.out.symm,hA⟩
theorem z3v {s:ByteArray}(h:s=z2l):s.toList=[]∧(s.toList == (⟨#[]⟩:ByteArray).toList)=true:=by subst h;exact⟨by rw[ByteArray.toList_eq];rfl,beq_self_eq_true _⟩
theorem z3w {s:ByteArray}(h:¬ s=z2l):¬ s.toList=[]∧s.toList.isEmpty=false:=by
 have h1:¬ s.toList=[]:=fun e=>h (by
  rw[ByteArray.toList_eq] at e;cases s with | mk a =>
  unfold z2l;congr 1
  exact Array.toList_eq_nil_iff.1 e)
 exact⟨h1,by cases hh:s.toList;exact absurd hh h1;rfl⟩
theorem z3x (a b:ByteArray):(a.toList == b.toList)=decide (a=b):=by
 rw[Bool.eq_iff_iff,beq_iff_eq,decide_eq_true_eq];constructor
 ·intro h;rw[ByteArray.toList_eq,ByteArray.toList_eq] at h;cases a with | mk x=>cases b with | mk y =>
  congr 1;exact Array.toList_inj.1 h
 ·intro h;rw[h]
theorem z3y (x:Syn)(w:World):Calls prog 46 #[.agg #[.int .i64 x.kind,.string x.path,.int .i64 x.num,.string x.frm,.string x.dst]] w fun e w'=>e=.returned (.int .i64 (z3p x.frm x.dst))∧Below w.heap.size w w':=by
 have hA:Below w.heap.size w (w.alloc (.cells #[.int .i64 x.kind,.string x.path,.int .i64 x.num,.string x.frm,.string x.dst] 50)):=(Below.refl _ _).alloc (Nat.le_refl _) _;by_cases h1:x.frm=z2l
 ·have HK:Hid (z3p x.frm x.dst=1):=hd_ (if_pos h1);obtain⟨s1,s2⟩:=z3v h1;clear h1;go_enter func46,ntmps46;go_wp2_with fail;go_ret;exact⟨by rw[HK.out];rfl,hA⟩
 ·obtain⟨s1,s2⟩:=z3w h1;by_cases h2:x.dst=z2l
  ·have HK:Hid (z3p x.frm x.dst=4):=hd_ (by unfold z3p;rw[if_neg h1,if_pos h2])
   obtain⟨t1,t2⟩:=z3v h2;clear h1 h2;go_enter func46,ntmps46;go_wp2_with fail;go_ret;exact⟨by rw[HK.out];rfl,hA⟩
  ·obtain⟨t1,t2⟩:=z3w h2;have q:=z3x x.frm x.dst;by_cases h3:x.frm=x.dst
   ·have HK:Hid (z3p x.frm x.dst=2):=hd_ (by unfold z3p;rw[if_neg h1,if_neg h2,if_pos h3])
    rw[decide_eq_true h3] at q;clear h1 h2 h3;go_enter func46,ntmps46;go_wp2_with fail;go_ret;exact⟨by rw[HK.out];rfl,hA⟩
   ·have HK:Hid (z3p x.frm x.dst=3):=hd_ (by unfold z3p;rw[if_neg h1,if_neg h2,if_neg h3])
    rw[decide_eq_false h3] at q;clear h1 h2 h3;go_enter func46,ntmps46;go_wp2_with fail;go_ret;exact⟨by rw[HK.out];rfl,hA⟩
theorem z3z (p:ByteArray)(w:World)(hp:p.size≤140737488355328):Calls prog 150 #[.string p] w fun e w'=>e=.returned (.bool (z3q p))∧w=w':=by
 have HV:=hd_ (z3c p w hp);by_cases h:p.size≤200
 ·have q:decide ((p.size:Int)≤200)=true:=by simp;omega
  have HB:Hid (z3q p=z2r p.data.toList):=hd_ (by unfold z3q;rw[decide_eq_true h];rfl)
  generalize z2r p.data.toList=b at HV HB;clear h;go_enter func150,ntmps150;go_wp2_with fail;refine HV.out.mono ?_;rintro e w' ⟨rfl,rfl⟩;go_wp2_with fail;go_ret;exact⟨z0w HB.out.symm,rfl⟩
 ·have q:decide ((p.size:Int)≤200)=false:=by simp;omega
  have HB:Hid (z3q p=false):=hd_ (by unfold z3q;rw[decide_eq_false h];rfl)
  clear h;go_enter func150,ntmps150;go_wp2_with fail;go_ret;exact⟨z0w HB.out.symm,rfl⟩
theorem z40 (a b:ByteArray)(w:World)(ha:a.size≤140737488355328)(hb:b.size≤140737488355328):
  Calls prog 55 #[.string a,.string b] w fun e w'=>e=.returned (.int .i64 (z2u a b))∧z3j w w':=by
 have H:=hd_ (z3l a b w ha hb);go_enter func55,ntmps55;go_wp2_with fail;refine H.out.mono ?_;rintro e w' ⟨rfl,hq⟩;go_wp2_with fail;go_ret;exact⟨rfl,hq⟩
theorem z41 (h:Hav)(w:World)(h1:h.path.size≤140737488355328)(h2:h.loc.size≤140737488355328):Calls prog 88 #[.agg #[.string h.path,.int .i64 h.num,.string h.loc]] w fun e w'=>e=.returned (.bool h.okB)∧Below w.heap.size w w':=by
 have hA:Below w.heap.size w (w.alloc (.cells #[.string h.path,.int .i64 h.num,.string h.loc] 96)):=(Below.refl _ _).alloc (Nat.le_refl _) _;have HP:=hd_ (fun X=>z3z h.path X h1);have HL:=hd_ (fun X=>z3z h.loc X h2);have HB:Hid (h.okB=(z3q h.path && z3q h.loc && decide (1≤h.num))):=hd_ rfl;generalize h.okB=b at HB ⊢;cases hb1:z3q h.path with
 | false =>
  rw[hb1] at HP HB;clear hb1;go_enter func88,ntmps88;go_wp2_with fail;refine (HP.out _).mono ?_;rintro e w' ⟨rfl,rfl⟩;go_wp2_with fail;go_ret;exact⟨z0w (by rw[HB.out];rfl),hA⟩
 | true =>
  rw[hb1] at HP HB;clear hb1;cases hb2:z3q h.loc with
  | false =>
   rw[hb2] at HL HB;clear hb2;go_enter func88,ntmps88;go_wp2_with fail;refine (HP.out _).mono ?_;rintro e w' ⟨rfl,rfl⟩;go_wp2_with fail;refine (HL.out _).mono ?_;rintro e w' ⟨rfl,rfl⟩;go_wp2_with fail;go_ret;exact⟨z0w (by rw[HB.out];rfl),hA⟩
  | true =>
   rw[hb2] at HL HB;clear hb2;go_enter func88,ntmps88;go_wp2_with fail;refine (HP.out _).mono ?_;rintro e w' ⟨rfl,rfl⟩;go_wp2_with fail;refine (HL.out _).mono ?_;rintro e w' ⟨rfl,rfl⟩;go_wp2_with fail;go_ret;exact⟨z0w (by rw[HB.out];rfl),hA⟩
theorem z42 (a b:Hav)(w:World)(ha:a.path.size≤140737488355328)(hb:b.path.size≤140737488355328):
  Calls prog 89 #[.agg #[.string a.path,.int .i64 a.num,.string a.loc],.agg #[.string b.path,.int .i64 b.num,.string b.loc]] w fun e w'=>e=.returned (.int .i64 (z2u a.path b.path))∧Below w.heap.size w w':=by
 have H:=hd_ (fun X=>z3l a.path b.path X ha hb);have hA:Below w.heap.size w ((w.alloc (.cells #[.string a.path,.int .i64 a.num,.string a.loc] 96)).alloc (.cells #[.string b.path,.int .i64 b.num,.string b.loc] 96)):=((Below.refl _ _).alloc (Nat.le_refl _) _).alloc (by simp) _
 go_enter func89,ntmps89;go_wp2_with fail;refine (H.out _).mono ?_;rintro e w' ⟨rfl,hq⟩;have HQ:=hd_ (z0r hA (hq.below _));clear hq;go_wp2_with fail;go_ret;exact⟨rfl,HQ.out⟩
def z85 (part:ByteArray):ByteArray:=part.extract 1 part.size
def z86 (part comp:ByteArray):ByteArray:=if z7e part then ⟨(Lib.trimSuffix comp.data.toList (z85 part).data.toList).toArray⟩ else z2l
def z87 (part comp:ByteArray):Bool:=if z7e part then Lib.hasSuffix comp.data.toList (z85 part).data.toList && !decide (z86 part comp=z2l) else decide (part=comp)
theorem z88 {s:ByteArray}(h:z7e s=true):1≤s.size:=by
 rcases Nat.eq_zero_or_pos s.size with h0 | h0
 ·have:s.data.toList=[]:=List.eq_nil_of_length_eq_zero (by simpa using h0)
  unfold z7e at h;rw[this] at h;cases h
 ·exact h0
theorem z89 (a b:ByteArray):(a.toList == b.toList)=decide (a=b):=by
 rw[Bool.eq_iff_iff,beq_iff_eq,decide_eq_true_eq,toList_inj]
theorem z8a {x y:ByteArray}{a b:Bool}(h1:x=y)(h2:a=b):Ending.returned (.tuple #[.string x,.bool a])=.returned (.tuple #[.string y,.bool b]):=by rw[h1,h2]
theorem z8b (part comp:ByteArray)(w:World)(hp:part.size≤9223372036854775807)(hs:comp.size≤9223372036854775807):
  Calls prog 134 #[.string part,.string comp] w fun e w'=>e=.returned (.tuple #[.string (z86 part comp),.bool (z87 part comp)])∧w=w':=by
 have HI:=hd_ (z7p part w);have HC:=hd_ (Tryz.strings_CutSuffix comp (part.extract 1 part.size) w hs);cases hst:z7e part with
 | false =>
  have HV:Hid (z86 part comp=⟨#[]⟩∧z87 part comp=decide (part=comp)):=hd_ (by unfold z86 z87;rw[hst];exact⟨rfl,rfl⟩)
  have HE:=hd_ (z89 part comp);rw[hst] at HI;clear hst;go_enter func134,ntmps134;go_wp2_with (go_at_call 135;refine HI.out.mono ?_;rintro e w' ⟨rfl,rfl⟩)
  go_ret2;exact⟨z8a HV.out.1.symm (by rw[HV.out.2];exact HE.out),rfl⟩
 | true =>
  have h1:1≤part.size:=z88 hst;have HV:Hid (z86 part comp=⟨(Lib.trimSuffix comp.data.toList (z85 part).data.toList).toArray⟩∧z87 part comp=(Lib.hasSuffix comp.data.toList (z85 part).data.toList && !decide (z86 part comp=z2l))):=hd_ ⟨by unfold z86;rw[hst];rfl,by unfold z87;rw[hst];rfl⟩
  rw[hst] at HI;clear hst;change Hid (Calls prog 191 #[.string comp,.string (part.extract 1 part.size)] w fun e w'=>e=.returned (.tuple #[.string ⟨(Lib.trimSuffix comp.data.toList (z85 part).data.toList).toArray⟩,.bool (Lib.hasSuffix comp.data.toList (z85 part).data.toList)])∧w'=w) at HC;generalize (⟨(Lib.trimSuffix comp.data.toList (z85 part).data.toList).toArray⟩:ByteArray)=x at HC HV;generalize Lib.hasSuffix comp.data.toList (z85 part).data.toList=ok at HC HV;have HE:=hd_ (z89 x ⟨#[]⟩);go_enter func134,ntmps134;cases ok with
  | false =>
   go_wp2_with (first
    | (go_at_call 135;refine HI.out.mono ?_;rintro e w' ⟨rfl,rfl⟩)
    | (go_at_call 191;refine HC.out.mono ?_;rintro e w' ⟨rfl,rfl⟩))
   go_ret2;exact⟨z8a HV.out.1.symm (by rw[HV.out.2];rfl),rfl⟩
  | true =>
   by_cases hx:x=⟨#[]⟩
   ·have HX:=hd_ hx;have q:(x.toList == (⟨#[]⟩:ByteArray).toList)=true:=by rw[HE.out];simpa using hx
    have q2:x.toList=[]:=by rw[hx,ByteArray.toList_eq]
    clear hx;go_wp2_with (first
     | (go_at_call 135;refine HI.out.mono ?_;rintro e w' ⟨rfl,rfl⟩)
     | (go_at_call 191;refine HC.out.mono ?_;rintro e w' ⟨rfl,rfl⟩))
    go_ret2;exact⟨z8a HV.out.1.symm (by rw[HV.out.2,HV.out.1,HX.out];rfl),rfl⟩
   ·have HX:=hd_ hx;have q:(x.toList == (⟨#[]⟩:ByteArray).toList)=false:=by rw[HE.out];simpa using hx
    have q2:¬ x.toList=[]:=fun h=>hx (toList_inj.1 (h.trans (by rw[ByteArray.toList_eq])))
    have q3:x.toList.isEmpty=false:=by cases hh:x.toList;exact absurd hh q2;rfl
    clear hx;go_wp2_with (first
     | (go_at_call 135;refine HI.out.mono ?_;rintro e w' ⟨rfl,rfl⟩)
     | (go_at_call 191;refine HC.out.mono ?_;rintro e w' ⟨rfl,rfl⟩))
    go_ret2;exact⟨z8a HV.out.1.symm (by rw[HV.out.2,HV.out.1,decide_eq_false (show ¬ x=z2l from HX.out)];rfl),rfl⟩
theorem z8c:z0e prog 29 9 1 16:=z0f underlying29 (z:=.string ⟨#[]⟩) (by kernel_rfl) rfl (by decide)
def z8d (l:List ByteArray)(j:Nat):ByteArray:=(l[j]?).getD z2l
def z8e (cs:List (List UInt8))(j:Nat):ByteArray:=baL ((cs[j]?).getD [])
def z8f (parts:List ByteArray)(cs:List (List UInt8))(k:Nat):Bool:=(List.range k).all fun j=>z87 (z8d parts j) (z8e cs j)
def z8g (parts:List ByteArray)(cs:List (List UInt8)):Nat→List ByteArray
 | 0=>[]
 | k+1=>z8g parts cs k++(if z7e (z8d parts k) then [z86 (z8d parts k) (z8e cs k)] else [])
def z8h (p:Pat)(cs:List (List UInt8)):Bool:=decide (p.parts.length≤cs.length) && (decide (p.parts.length<cs.length) == p.rest)
def z8i (p:Pat)(cs:List (List UInt8)):List ByteArray:=z8g p.parts cs p.parts.length++(if p.rest then [baL (Lib.join (cs.drop p.parts.length) [47])] else [])
def z8j (p:Pat)(s:ByteArray):Option (List ByteArray):=
 match z2q s.data.toList 2 with
 | none=>none
 | some cs=>if z7j p=0∧z8h p cs=true∧z8f p.parts cs p.parts.length=true then some (z8i p cs) else none
theorem z8k {parts:List ByteArray}{cs:List (List UInt8)}{k:Nat}:z8f parts cs (k+1)=(z8f parts cs k && z87 (z8d parts k) (z8e cs k)):=by
 unfold z8f;rw[List.range_succ,List.all_append];simp
theorem z8l {parts:List ByteArray}{cs:List (List UInt8)}{k n:Nat}(hk:k<n)(h:z87 (z8d parts k) (z8e cs k)=false):z8f parts cs n=false:=by
 unfold z8f;rw[List.all_eq_false];exact⟨k,List.mem_range.2 hk,by rw[h];simp⟩
def z8m (w:World)(p:Pat)(s:ByteArray)(e:Ending)(w':World):Prop:=∃ A n c,e=.returned (.tuple #[.slice A n c,.bool (z8j p s).isSome])∧Below w.heap.size w w'∧∀ l,z8j p s=some l→n=l.length∧Strs w' (.slice A n c) l
theorem z8n (s:ByteArray)(w:World)(he:Env w)(hs:s.size≤2000000):
  Calls prog 132 #[.string s] w fun e w'=>(z2q s.data.toList 2=none∧e=.returned (.tuple #[.slice none 0 0,.bool false])∧Below w.heap.size w w')∨∃ cs,z2q s.data.toList 2=some cs∧e=.returned (.tuple #[.slice (some ⟨w.heap.size,0,none⟩) cs.length cs.length,.bool true])∧w.alloc (.cells (z71 cs).toArray 9)=w':=by
 cases hd:z2q s.data.toList 2 with
 | none =>
  have H:=hd_ (z7d s w he hs hd);clear hd he;go_enter func132,ntmps132;go_wp2_with fail;refine H.out.mono ?_;rintro e w' ⟨rfl,hb⟩;have HB:=hd_ hb;clear hb;go_wp2_with fail;go_ret2;exact .inl ⟨by first | rfl | trivial,rfl,HB.out⟩
 | some cs =>
  have H:=hd_ (z7c s cs w he hs hd);clear hd he;generalize hW:w.alloc (.cells (z71 cs).toArray 9)=W at H;have HW:=hd_ hW;clear hW;go_enter func132,ntmps132;go_wp2_with fail;refine H.out.mono ?_;rintro e w' ⟨rfl,rfl⟩;go_wp2_with fail;go_ret2;exact .inr ⟨cs,rfl,rfl,HW.out⟩
def zhf:List (List UInt8)→List (List UInt8)→Int
 | [],[]=>0
 | [],_ :: _=>-1
 | _ :: _,[]=>1
 | a :: l,b :: m=>if Lib.compareBytes a b=0 then zhf l m else Lib.compareBytes a b
def zhg:List (List UInt8)→List UInt8
 | []=>[]
 | p :: ps=>47 :: p++zhg ps
theorem zhh (p:List UInt8)(ps:List (List UInt8)):47 :: Lib.join (p :: ps) [47]=zhg (p :: ps):=by
 induction ps generalizing p with
 | nil=>simp [Lib.join_one,zhg]
 | cons q ps ih =>
  rw[z1h p (q :: ps) (by simp),zhg,← ih q]
  simp
def zhi (l:List UInt8):Prop:=l=[]∨∃ r,l=47 :: r
theorem zhj (ps:List (List UInt8)):zhi (zhg ps):=by
 cases ps with
 | nil=>exact .inl rfl
 | cons p ps=>exact .inr ⟨p++zhg ps,by simp [zhg]⟩
theorem zhk:∀(p q X Y:List UInt8),(47:UInt8)∉p→(47:UInt8)∉q→zhi X→zhi Y→z2t (p++X) (q++Y)=if Lib.compareBytes p q=0 then z2t X Y else Lib.compareBytes p q
 | [],[],X,Y,_,_,_,_=>by simp [Lib.compareBytes]
 | [],b :: q,X,Y,_,hq,hX,_=>by
  have hb:b≠47:=fun e=>hq (by rw[e];exact List.mem_cons_self ..)
  rcases hX with rfl | ⟨r,rfl⟩
  ·simp [Lib.compareBytes,z2t]
  ·simp [Lib.compareBytes,z2t]
   exact fun e=>absurd e.symm hb
 | a :: p,[],X,Y,hp,_,_,hY=>by
  have ha:a≠47:=fun e=>hp (by rw[e];exact List.mem_cons_self ..)
  rcases hY with rfl | ⟨r,rfl⟩
  ·simp [Lib.compareBytes,z2t]
  ·simp [Lib.compareBytes,z2t,ha]
 | a :: p,b :: q,X,Y,hp,hq,hX,hY=>by
  have ha:a≠47:=fun e=>hp (by rw[e];exact List.mem_cons_self ..)
  have hb:b≠47:=fun e=>hq (by rw[e];exact List.mem_cons_self ..)
  have ih:=zhk p q X Y (fun h=>hp (List.mem_cons_of_mem _ h)) (fun h=>hq (List.mem_cons_of_mem _ h)) hX hY;rw[List.cons_append,List.cons_append,z2t,Lib.compareBytes];by_cases e:a=b
  ·subst e;have hlt:¬ a<a:=by rw[UInt8.lt_iff_toNat_lt];omega
   rw[if_pos rfl,if_neg hlt,if_neg hlt];exact ih
  ·rw[if_neg e,if_neg ha,if_neg hb];by_cases hl:a<b
   ·rw[if_pos hl,if_pos hl];simp
   ·have hg:b<a:=by
     have:a.toNat≠b.toNat:=fun h=>e (UInt8.toNat_inj.1 h);rw[UInt8.lt_iff_toNat_lt] at hl ⊢;omega
    rw[if_neg hl,if_neg hl,if_pos hg];simp
theorem zhl:∀(ps qs:List (List UInt8)),(∀ p∈ps,(47:UInt8)∉p)→(∀ q∈qs,(47:UInt8)∉q)→z2t (zhg ps) (zhg qs)=zhf ps qs
 | [],[],_,_=>rfl
 | [],q :: qs,_,_=>by simp [zhg,z2t,zhf]
 | p :: ps,[],_,_=>by simp [zhg,z2t,zhf]
 | p :: ps,q :: qs,hp,hq=>by
  have ih:=zhl ps qs (fun x hx=>hp x (List.mem_cons_of_mem _ hx)) (fun x hx=>hq x (List.mem_cons_of_mem _ hx));rw[zhg,zhg,List.cons_append,List.cons_append,z2t,if_pos rfl,zhk p q _ _ (hp p (List.mem_cons_self ..)) (hq q (List.mem_cons_self ..)) (zhj _) (zhj _),zhf,ih]
theorem zhm {l:List UInt8}{least:Nat}{ps:List (List UInt8)}(h:z2q l least=some ps):l=47 :: zhg ps∧∀ p∈ps,(47:UInt8)∉p:=by
 unfold z2q at h;split at h
 ·rename_i hc
  injection h with h
  subst h;have hp:=hc.1;have hl:l=47 :: 47 :: l.drop 2:=by
   match l,hp with
   | [],hp=>simp [Lib.hasPrefix] at hp
   | [a],hp=>simp [Lib.hasPrefix] at hp
   | a :: b :: r,hp =>
    simp [Lib.hasPrefix] at hp
    obtain⟨rfl,rfl⟩:=hp;rfl
  have hj:=z1i (l.drop 2);refine⟨?_,fun p hp=>(z1e hp).1⟩;cases hs:z1a (l.drop 2) with
  | nil=>exact absurd hs (z1b _)
  | cons p ps =>
   rw[← zhh,← hs,hj];exact hl
 ·cases h
theorem zhn {a b:ByteArray}{ps qs:List (List UInt8)}(ha:z2q a.data.toList 2=some ps)(hb:z2q b.data.toList 2=some qs):z2u a b=zhf ps qs:=by
 have va:z2s a=true:=by unfold z2s z2r;rw[ha];rfl
 have vb:z2s b=true:=by unfold z2s z2r;rw[hb];rfl
 obtain⟨a1,a2⟩:=zhm ha;obtain⟨b1,b2⟩:=zhm hb;rw[z5d va vb,a1,b1,z2t,if_pos rfl,zhl ps qs a2 b2]
def zid (es:List Edt)(x:Edt):Nat:=es.countP fun y=>(decide (x.act=5) && decide (y.act=4) && decide (y.frm=x.path)) || (decide (x.act=4) && decide (y.act=5) && decide (y.path=x.frm))
def zie (es:List Edt)(x:Edt):Bool:=decide (zid es x=1) || (decide (x.act≠5) && decide (x.act≠4))
open Go.Sort (grow)
def zjo (x:Syn)(l:ByteArray):Bool:=
 z3q x.path && decide (x.frm=l) && !(decide (x.frm=z2l) && decide (x.dst=z2l)) && (if x.dst=z2l then decide (x.num=0) else decide (1≤x.num) && z3q x.dst) && (z3o x.kind || x.kind == z3p x.frm x.dst)
