/- A part of the proof. -/
import Derived.Test.YtegeboijhifmcaaGreatDoorMgw8
import Derived.Test.YtegeboijhifmcaaGreatDoorMgw7
import Derived.Laws.EntriesVeiled
import Derived.Deep.LoopGhost
set_option linter.unusedVariables false
set_option linter.unusedSimpArgs false
set_option maxHeartbeats 1000000
namespace Go.Proofs.YtegeboijhifmcaaGreatDoor
open Go.Proofs.Tryz
open Go.RowKit
theorem zab {w:World}{base:Nat}{e:TypeId}{size n c g j:Nat}{xs:List Value}(h:w.ownsRow base e size (.slice (some ⟨g,0,none⟩) n c) n xs)(u:Value):(w.setCell ⟨g,j,none⟩ u).ownsRow base e size (.slice (some ⟨g,0,none⟩) n c) n (xs.set j u):=by
 obtain⟨h1,h2 | ⟨g',cap,cur,e1,h3,h4,h5,h6,h7,h8⟩⟩:=h
 ·cases h2.1
 ·injection e1 with e1 _ e3
  injection e1 with e1
  injection e1 with e1
  subst e1 e3;refine⟨by rw[List.length_set];exact h1,.inr ⟨g,c,cur.setIfInBounds j u,rfl,h3,?_,h5,h6,by simp [h7],?_⟩⟩
  ·simp [World.setCell,Array.getElem?_modify,h4]
  ·rw[Array.toList_setIfInBounds,List.take_set,h8]
theorem zac {w:World}{base:Nat}{e:TypeId}{size n c g j:Nat}{xs:List Value}{u:Value}(h:w.ownsRow base e size (.slice (some ⟨g,0,none⟩) n c) n xs)(hj:xs[j]? = some u):w.cell? ⟨g,j,none⟩=some u∧w.frozen? ⟨g,j,none⟩=false∧base≤g:=by
 obtain⟨h1,h2 | ⟨g',cap,cur,e1,h3,h4,h5,h6,h7,h8⟩⟩:=h
 ·cases h2.1
 ·injection e1 with e1 _ e3
  injection e1 with e1
  injection e1 with e1
  subst e1 e3;refine⟨?_,by simp [World.frozen?,h4],h3⟩
  rw[cell_of_row w g j cur e (0,0) h4,← hj,← h8];have hlt:j<n * size:=by rw[← h1];exact (List.getElem?_eq_some_iff.1 hj).1
  rw[List.getElem?_take_of_lt hlt,Array.getElem?_toList]
def zad (n:Nat)(r:Bool)(m:Nat)(s:Bool):Bool:=if r && s then true else if r then decide (n<m) else if s then decide (m<n) else decide (n=m)
theorem zae (n m:Nat)(r s:Bool)(w:World):Calls prog 143 #[.int .i64 n,.bool r,.int .i64 m,.bool s] w fun e w'=>e=.returned (.bool (zad n r m s))∧w=w':=by
 have q1:decide ((n:Int)<(m:Int))=decide (n<m):=by rw[decide_eq_decide];omega
 have q2:decide ((m:Int)<(n:Int))=decide (m<n):=by rw[decide_eq_decide];omega
 have q3:((n:Int) == (m:Int))=decide (n=m):=by rw[Bool.eq_iff_iff,beq_iff_eq,decide_eq_true_eq];omega
 unfold zad;cases r <;> cases s <;> (
  go_enter func143,ntmps143;go_wp2_with fail;go_ret;first
   | exact⟨rfl,rfl⟩
   | exact⟨by simp,rfl⟩
   | exact⟨by simp [q1],rfl⟩
   | exact⟨by simp [q2],rfl⟩
   | exact⟨by simp [q3],rfl⟩)
def zaf:List ByteArray→List ByteArray→Option (List ByteArray)
 | xs,[]=>some xs
 | [],_ :: _=>none
 | x :: xs,y :: ys=>match z9t x y with
  | none=>none
  | some z=>(zaf xs ys).map (z :: ·)
def zag (p q:Pat):Pat:=if p.parts.length<q.parts.length then q else p
def zah (p q:Pat):Pat:=if p.parts.length<q.parts.length then p else q
def zai (p q:Pat):Option Pat:=
 if z7e p=0∧z7e q=0∧zad p.parts.length p.rest q.parts.length q.rest=true then (zaf (zag p q).parts (zah p q).parts).map (fun l=>⟨l,p.rest && q.rest⟩) else none
def zaj (xs ys:List ByteArray)(k:Nat)(done:List ByteArray):Prop:=done.length=k∧zaf xs ys=(zaf (xs.drop k) (ys.drop k)).map (done++·)
theorem zak (xs ys:List ByteArray):zaj xs ys 0 []:=⟨rfl,by simp⟩
theorem zal {xs ys:List ByteArray}{k:Nat}{done:List ByteArray}(h:zaj xs ys k done)(hx:k<xs.length)(hy:k<ys.length)(e:z9t xs[k] ys[k]=none):zaf xs ys=none:=by
 rw[h.2,List.drop_eq_getElem_cons hx,List.drop_eq_getElem_cons hy];unfold zaf;rw[e];rfl
theorem zam {xs ys:List ByteArray}{k:Nat}{done:List ByteArray}{z:ByteArray}(h:zaj xs ys k done)(hx:k<xs.length)(hy:k<ys.length)(e:z9t xs[k] ys[k]=some z):zaj xs ys (k+1) (done++[z]):=by
 refine⟨by rw[List.length_append,h.1];rfl,?_⟩
 rw[h.2,List.drop_eq_getElem_cons hx,List.drop_eq_getElem_cons hy];conv=>lhs;unfold zaf
 rw[e];simp only[Option.map_map]
 congr 1
 funext l
 simp
theorem zan {xs ys:List ByteArray}{done:List ByteArray}(h:zaj xs ys ys.length done):zaf xs ys=some (done++xs.drop ys.length):=by
 rw[h.2,List.drop_length];cases h2:xs.drop ys.length <;> rfl
theorem zao {p:Pat}(h:z7e p=0):p.parts.length≤12:=by
 unfold z7e at h;split at h
 ·cases h
 ·split at h
  ·cases h
  ·split at h
   ·cases h
   ·omega
theorem zap (l:List ByteArray)(v:Value)(w:World)(hb:Strs w v l)(hl:l.length≤1000000):
  Calls prog 144 #[v] w fun e w'=>∃ v',e=.returned v'∧w'.ownsRow w.heap.size 9 1 v' l.length (l.map .string)∧Below w.heap.size w w':=by
 obtain⟨A,c,rfl,hc,hm,hlen,h0,hx⟩:=id hb;cases A with
 | none =>
  have hc0:=h0 rfl;have hn0:l=[]:=List.eq_nil_of_length_eq_zero (by omega)
  subst hn0 hc0;have heq:∀ W,(binOp .eql 29 (.slice none 0 0) (.slice none 0 0)).run prog W=.ok (.bool true) W:=fun W=>by kernel_rfl
  clear hx hlen h0 hb;go_enter func144,ntmps144;go_wp2_with fail;go_ret;exact⟨_,rfl,World.ownsRow_nil _ _ _ _,Below.refl _ _⟩
 | some ad =>
  have heq:∀ W,(binOp .eql 29 (.slice (some ad) l.length c) (.slice none 0 0)).run prog W=.ok (.bool false) W:=fun W=>by kernel_rfl
  clear hx hlen h0;have HR:=hd_ hb;clear hb;have hb0:Below w.heap.size w (w.alloc (.cells #[] 9)):=(Below.refl _ _).alloc (Nat.le_refl _) _;have hown:(w.alloc (.cells #[] 9)).ownsRow w.heap.size 9 1 (.slice (some ⟨w.heap.size,0,none⟩) 0 0) 0 []:=⟨rfl,.inr ⟨w.heap.size,0,#[],rfl,Nat.le_refl _,heap_alloc_new w _,Nat.le_refl _,by unfold maxLen;omega,rfl,rfl⟩⟩
  have h1:∀ u∈l.map Value.string,u.oneCell'=true:=fun u hu=>by
   obtain⟨b,-,rfl⟩:=List.mem_map.1 hu;rfl
  have H1:=hd_ h1;clear h1;go_enter func144,ntmps144;go_wp2_with (at_builtin;refine z0k rfl rfl z87 hown rfl (HR.out.below hb0) rfl hb0 hb0.size H1.out (by omega) (by unfold maxLen;omega) ?_;intro A' c' w1 hown1 hbl1)
  go_ret;have h:=hown1;rw[List.nil_append,Nat.zero_add] at h;exact⟨_,rfl,h,hbl1⟩
def natV (n:Nat):Value:=.int .i64 n
def ze8 (w:World)(B:Nat)(cnt:ByteArray→Nat):Prop:=∃ f,z2f Value.string natV w B f∧∀ p,(f p).getD 0=cnt p
theorem ze9 (w:World):(zeroValue 3).run prog w=.ok (natV 0) w:=by kernel_rfl
section
variable {w w' : World} {B : Nat} {cnt : ByteArray → Nat}
theorem ze8.new (w:World):ze8 (w.alloc (.map #[] 0)) w.heap.size (fun _=>0):=⟨_,z2f.new _ _ w,fun _=>rfl⟩
theorem ze8.alloc (h:ze8 w B cnt)(o:Obj):ze8 (w.alloc o) B cnt:=by obtain⟨f,h,r⟩:=h;exact⟨f,h.alloc o,r⟩
theorem ze8.lt (h:ze8 w B cnt):B<w.heap.size:=by obtain⟨f,h,r⟩:=h;exact h.lt
theorem ze8.look (h:ze8 w B cnt)(p:ByteArray):(Instr.lookup 122 (.map (some B)) (.string p) false).run prog w=.ok (.int .i64 (cnt p)) w:=by
 obtain⟨f,h,r⟩:=h;rw[z2f.lookup h z7q underlying122 (ze9 w) p false,← r p];unfold z2h;cases f p <;> rfl
end
def zea (q:ByteArray)(p:Rev→Bool)(o:Option Rev)(r:Rev):Option Rev:=
 if r.path=q∧p r=true then (match o with
  | none=>some r
  | some b=>if b.num<r.num then some r else some b) else o
theorem zeb (revs:List Rev)(q:ByteArray)(p:Rev→Bool):z30 revs q p=revs.foldl (zea q p) none:=rfl
def zec (o:Option Rev):Rev:=o.getD z2m
theorem far12 {w:World}{g g':Nat}{e:TypeId}{cs:List Value}(h:Blk w g' e cs)(hg:g≠g')(r:Rev):Blk ((((((((((((w.setCell ⟨g,0,none⟩ (.string r.path)).setCell ⟨g,1,none⟩ (.int .i64 r.num)).setCell ⟨g,2,none⟩ (.int .i64 r.chg)).setCell ⟨g,3,none⟩ (.int .i64 r.act)).setCell ⟨g,4,none⟩ (.int .i64 r.ty.base)).setCell ⟨g,5,none⟩ (.bool r.ty.k)).setCell ⟨g,6,none⟩ (.bool r.ty.l)).setCell ⟨g,7,none⟩ (.bool r.ty.x)).setCell ⟨g,8,none⟩ (.int .u64 r.sum)).setCell ⟨g,9,none⟩ (.int .i64 r.size)).setCell ⟨g,10,none⟩ (.string r.frm)).setCell ⟨g,11,none⟩ (.int .i64 r.fnum)) g' e cs:=
 ((((((((((((h.far (p:=⟨g,0,none⟩) hg _).far (p:=⟨g,1,none⟩) hg _).far (p:=⟨g,2,none⟩) hg _).far (p:=⟨g,3,none⟩) hg _).far (p:=⟨g,4,none⟩) hg _).far (p:=⟨g,5,none⟩) hg _).far (p:=⟨g,6,none⟩) hg _).far (p:=⟨g,7,none⟩) hg _).far (p:=⟨g,8,none⟩) hg _).far (p:=⟨g,9,none⟩) hg _).far (p:=⟨g,10,none⟩) hg _).far (p:=⟨g,11,none⟩) hg _)
def zgp (revs:List Rev)(p:ByteArray):List Rev:=revs.filter fun r=>decide (r.path=p)
theorem zgq {revs:List Rev}{p:ByteArray}{v:Rev}:v∈zgp revs p↔v∈revs∧v.path=p:=by
 unfold zgp;simp
theorem zgr (a b:List Rev)(p:ByteArray):zgp (a++b) p=zgp a p++zgp b p:=by unfold zgp;rw[List.filter_append]
theorem ret_i {k:IntKind}{a b:Int}(h:a=b):Ending.returned (.int k a)=.returned (.int k b):=by rw[h]
theorem zi3 (b:Int)(k l x:Bool)(w:World):
  Calls prog 176 #[.agg #[.int .i64 b,.bool k,.bool l,.bool x]] w fun e w'=>e=.returned (.int .i64 (z2k 90 (z2j b k x)))∧Below w.heap.size w w':=by
 by_cases h0:1≤b∧b≤3
 ·have hb:b=1∨b=2∨b=3:=by omega
  rcases hb with rfl | rfl | rfl <;> cases k <;> cases x
  all_goals
   go_enter func176,ntmps176;go_wp2
   go_ret;exact⟨rfl,(Below.refl _ _).alloc (Nat.le_refl _) _⟩
 ·have H:Hid (z2j b k x=false):=hd_ (by
   unfold z2j;have h1:(b == 1)=false:=by rw[beq_eq_false_iff_ne];omega
   have h2:(b == 2)=false:=by rw[beq_eq_false_iff_ne];omega
   have h3:(b == 3)=false:=by rw[beq_eq_false_iff_ne];omega
   simp [h1,h2,h3])
  by_cases hb:b<1
  ·clear h0;go_enter func176,ntmps176;go_wp2
   go_ret;exact⟨ret_i (by rw[H.out];rfl),(Below.refl _ _).alloc (Nat.le_refl _) _⟩
  ·have hb3:3<b:=by omega
   clear h0;go_enter func176,ntmps176;go_wp2
   go_ret;exact⟨ret_i (by rw[H.out];rfl),(Below.refl _ _).alloc (Nat.le_refl _) _⟩
variable {f : ByteArray → Option Rev} {b : ByteArray} {x : Edt}
end Go.Proofs.YtegeboijhifmcaaGreatDoor
