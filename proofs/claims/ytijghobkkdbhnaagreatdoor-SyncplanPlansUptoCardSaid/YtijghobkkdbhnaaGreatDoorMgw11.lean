/- A part. -/
import Derived.Test.YtijghobkkdbhnaaGreatDoorMgw10
import Derived.Test.YtijghobkkdbhnaaGreatDoorMgw7
import Derived.Maps.OwnSet
import Derived.Deep.CutBlock
set_option linter.unusedVariables false
set_option linter.unusedSimpArgs false
set_option maxHeartbeats 4000000
set_option maxRecDepth 100000
namespace Go.Proofs.YtijghobkkdbhnaaGreatDoor
open Go.Proofs.Tryz
open Go.RowKit
section
variable {κ α : Type} [BEq κ] {P : Program} {k : TypeId} {kv : κ → Value} {enc : α → Value} {w w' : World} {B : Nat} {f : κ → Option α}
def z6u (kv:κ→Value)(enc:α→Value)(w:World)(B:Nat)(f:κ→Option α):Prop:=∃ m:List (κ×Value),z1u kv w B m∧(m.map (·.1)).Nodup∧∀ x,z1p m x=(f x).map enc
theorem z6u.fmap (h:z6u kv enc w B f):z2f kv enc w B f:=by obtain⟨m,h,-,r⟩:=h;exact⟨m,h,r⟩
theorem z6u.lt (h:z6u kv enc w B f):B<w.heap.size:=h.fmap.lt
theorem z6u.keep (h:z6u kv enc w B f)(hk:w'.heap[B]? = w.heap[B]?):z6u kv enc w' B f:=by obtain⟨m,h,n,r⟩:=h;exact⟨m,h.keep hk,n,r⟩
theorem z6u.below (h:z6u kv enc w B f)(hb:Below w.heap.size w w'):z6u kv enc w' B f:=by obtain⟨m,h,n,r⟩:=h;exact⟨m,h.below hb,n,r⟩
theorem z6u.new (kv:κ→Value)(enc:α→Value)(w:World):z6u kv enc (w.alloc (.map #[] 0)) w.heap.size (fun _=>none):=⟨[],z1u.new kv w,List.nodup_nil,fun _=>rfl⟩
theorem z6v [LawfulBEq κ](k:κ)(v:Value):∀(m:List (κ×Value)) (x:κ),x∈(z1q m k v).map (·.1)→x=k∨x∈m.map (·.1)
 | [],x,h=>by simp [z1q] at h;exact .inl h
 | p :: m,x,h=>by
  by_cases hk:(k == p.1)=true
  ·have e:k=p.1:=eq_of_beq hk;simp only[z1q,hk,if_true,List.map_cons,List.mem_cons] at h ⊢
   rcases h with h | h
   ·exact .inl h
   ·exact .inr (.inr h)
  ·simp only[z1q,hk,if_false,List.map_cons,List.mem_cons,Bool.false_eq_true] at h ⊢
   rcases h with h | h
   ·exact .inr (.inl h)
   ·rcases z6v k v m x h with h | h
    ·exact .inl h
    ·exact .inr (.inr h)
theorem z6w [LawfulBEq κ](k:κ)(v:Value):∀(m:List (κ×Value)),(m.map (·.1)).Nodup→((z1q m k v).map (·.1)).Nodup
 | [],_=>by simp [z1q]
 | p :: m,h=>by
  rw[List.map_cons,List.nodup_cons] at h;by_cases hk:(k == p.1)=true
  ·have e:k=p.1:=eq_of_beq hk;simp only[z1q,hk,if_true,List.map_cons]
   rw[e,List.nodup_cons];exact h
  ·have hne:¬ k=p.1:=fun e=>hk (by rw[e];exact beq_self_eq_true _)
   simp only[z1q,hk,if_false,List.map_cons,Bool.false_eq_true]
   rw[List.nodup_cons];refine⟨fun hx=>?_,z6w k v m h.2⟩;rcases z6v k v m p.1 hx with e | e
   ·exact hne e.symm
   ·exact h.1 e
theorem z6u.update [LawfulBEq κ][DecidableEq κ](h:z6u kv enc w B f)(K:z1s P k kv){t e:TypeId}(ht:P.underlying t=some (.map k e))(x:κ)(v:α):
  ∃ w',(Instr.mapUpdate t (.map (some B)) (kv x) (enc v)).run P w=.ok () w'∧z6u kv enc w' B (upd f x v)∧w.grownBy w' (some B)∧w'.heap.size=w.heap.size:=by
 obtain⟨m,h,n,r⟩:=h;obtain⟨w',h1,h2,h3,h4⟩:=h.update K ht x (enc v);refine⟨w',h1,⟨_,h2,z6w _ _ _ n,fun y=>?_⟩,h3,h4⟩;rw[z2g];unfold upd;by_cases e:y=x
 ·rw[if_pos e,if_pos e];rfl
 ·rw[if_neg e,if_neg e];exact r y
end
theorem z6x (w:World)(n:Nat):Below w.heap.size w (w.drewN n):=⟨rfl,rfl,rfl,Nat.le_refl _,fun _ _=>rfl⟩
structure z6y (S:List Nat)(w w':World):Prop where
 os:w'.os=w.os
 tape:w'.tape=w.tape
 output:w'.output=w.output
 size:w.heap.size≤w'.heap.size
 block:∀ k,k<w.heap.size→k∉S→w'.heap[k]? = w.heap[k]?
theorem z6y.below {S:List Nat}{w w':World}(h:Below w.heap.size w w'):z6y S w w':=⟨h.os,h.tape,h.output,h.size,fun k hk _=>h.block k hk⟩
theorem z6y.grown {S:List Nat}{w w':World}{g:Nat}(h:w.grownBy w' (some g))(hg:g∈S):z6y S w w':=⟨h.os,h.tape,h.output,h.size,fun k hk hs=>h.block k hk (by intro e;injection e with e;subst e;exact hs hg)⟩
theorem z6y.trans {S:List Nat}{w w1 w2:World}(h:z6y S w w1)(h2:z6y S w1 w2):z6y S w w2:=
 ⟨h2.os.trans h.os,h2.tape.trans h.tape,h2.output.trans h.output,Nat.le_trans h.size h2.size,fun k hk hs=>(h2.block k (Nat.lt_of_lt_of_le hk h.size) hs).trans (h.block k hk hs)⟩
theorem z6y.to_below {S:List Nat}{w w':World}{B:Nat}(h:z6y S w w')(hS:∀ s∈S,B≤s)(hB:B≤w.heap.size):Below B w w':=
 ⟨h.os,h.tape,h.output,h.size,fun k hk=>h.block k (Nat.lt_of_lt_of_le hk hB) (fun hs=>by have:=hS k hs;omega)⟩
theorem z6y.blk {S:List Nat}{w w':World}{g:Nat}{e:TypeId}{cs:List Value}(h:z6y S w w')(hB:Blk w g e cs)(hg:g∉S):Blk w' g e cs:=(h.block g (Blk.lt hB) hg).trans hB
theorem z6y.fmap {κ α:Type}[BEq κ]{kv:κ→Value}{enc:α→Value}{S:List Nat}{w w':World}{B:Nat}{F:κ→Option α}(h:z6y S w w')(hM:z2f kv enc w B F)(hg:B∉S):z2f kv enc w' B F:=hM.keep (h.block B hM.lt hg)
theorem Row.set_far {w:World}{size n g i:Nat}{v u:Value}{xs:List Value}(h:Row w size v n xs)(hne:v.ownBlock≠some g):Row (w.setCell ⟨g,i,none⟩ u) size v n xs:=by
 obtain⟨A,c,rfl,hc,hm,hl,h0,hx⟩:=h;refine⟨A,c,rfl,hc,hm,hl,h0,fun hn=>?_⟩;obtain⟨ad,rfl,hb,hcell⟩:=hx hn;refine⟨ad,rfl,by simpa [World.setCell] using hb,fun j u' hu=>?_⟩
 rw[← hcell j u' hu];refine World.cell?_of_block (Below.heap_setCell w _ _ _ ?_);rw[z00];intro e;exact hne (congrArg some e)
theorem Row.kept {S:List Nat}{w X:World}{size n c:Nat}{ad:Addr}{xs:List Value}(h:Row w size (.slice (some ad) n c) n xs)(hK:z6y S w X)(hb:ad.block∉S):Row X size (.slice (some ad) n c) n xs:=by
 obtain⟨A,c',e,hc,hm,hl,h0,hx⟩:=h;injection e with e1 e2 e3
 subst e3;refine⟨some ad,c,rfl,hc,hm,hl,(fun h=>by cases h),fun hn=>?_⟩
 obtain⟨ad',e4,hb',hcell⟩:=hx hn;rw[← e1] at e4;injection e4 with e4
 subst e4;refine⟨ad,rfl,Nat.lt_of_lt_of_le hb' hK.size,fun j u' hu=>?_⟩;rw[← hcell j u' hu];refine World.cell?_of_block ?_;rw[z00];exact hK.block _ hb' hb
theorem z6z (w:World)(g i:Nat)(u:Value):w.grownBy (w.setCell ⟨g,i,none⟩ u) (some g):=
 ⟨rfl,rfl,rfl,by simp,fun k _ hk=>Below.heap_setCell w ⟨g,i,none⟩ u k (fun e=>hk (by rw[e]))⟩
open Go.RowKit Go.Lib
open Go.Sort hiding Below
abbrev zav:={ s:ByteArray // z2s s=true∧s.size≤1000000 }
instance:Inhabited zav:=⟨⟨z5t,z5u,by unfold z5t;decide⟩⟩
def zav.enc (x:zav):Value:=.string x.1
def zav.cmp (x y:zav):Int:=z2u x.1 y.1
theorem zaw:z5p zav.cmp:=totP (f:=fun r:zav=>r.1) fun r=>r.2.1
theorem zax (blk off size:Nat)(w:World):CmpReads prog 55 #[] zav.enc zav.cmp blk off size w:=
 fun m os dk _ x y=>(z40 x.1 y.1 (sortWorld zav.enc w blk off m dk os) (by have:=x.2.2;omega) (by have:=y.2.2;omega)).mono fun e w' h=>h
theorem zay:∀ {l:List ByteArray},(∀ r∈l,z2s r=true∧r.size≤1000000)→∃ l':List zav,l'.map (·.1)=l
 | [],_=>⟨[],rfl⟩
 | r :: l,h=>by
  obtain⟨l',rfl⟩:=zay fun x hx=>h x (List.mem_cons_of_mem _ hx);exact⟨⟨r,h r (List.mem_cons_self ..)⟩ :: l',rfl⟩
theorem zaz (A:Option Addr)(c:Nat)(w:World):Calls prog 178 #[.slice A 0 c,.int .i64 0,.int .i64 0,.func (.func 55) #[] #[]] w fun e w'=>e=.returned (.tuple #[])∧w=w':=by
 go_enter func178,ntmps178;go_wp2
 refine wp_loop_rounds 1 ?_;rw[rounds_succ];go_wp2
 go_end0
 exact⟨rfl,rfl⟩
def SrEnd (w:World)(v:Value)(l:List ByteArray)(w':World):Prop:=∃ l':List ByteArray,l'.Perm l∧l'.Pairwise (fun a b=>¬ z2u b a<0)∧Row w' 1 v l.length (l'.map .string)∧w.grownBy w' v.ownBlock
def SrPost (w:World)(base:Nat)(v:Value)(l:List ByteArray)(e:Ending)(w':World):Prop:=
 e=.returned (.tuple #[])∧SrEnd w v l w'
theorem zb0 (l:List zav)(v:Value)(base:Nat)(lim:Int)(w:World)(hown:w.ownsRow base 9 1 v l.length (l.map zav.enc))(hl:l.length≤12)(h0:0<l.length):
  Calls prog 128 #[v,.int .i64 0,.int .i64 l.length,.int .i64 lim,.func (.func 55) #[] #[]] w (SrPost w base v (l.map (·.1))):=by
 obtain⟨g,cap,rfl⟩:=z0s hown h0;have hHold:Holds zav.enc w g 0 l.toArray:=fun j hj=>by
  have hj':j<l.length:=by simpa using hj
  have h1:=zah hown (j:=j) (u:=zav.enc l[j]) (by rw[List.getElem?_map,List.getElem?_eq_getElem hj'];rfl)
  rw[Nat.zero_add,getElem!_pos l.toArray j hj];exact⟨h1.1,h1.2.1⟩
 have H:=hd_ (Tryz.insertionSortCmpFunc_one zav.enc (fun _=>rfl) zav.cmp 55 #[] g 0 cap 0 l.length l.toArray w (fun args w=>by kernel_rfl) (zax g 0 _ w) hHold (Nat.zero_le _) (by simp) (by simp;omega))
 have HH:=hd_ hHold;have HO:=hd_ hown;have hs0:l.toArray.size=l.length:=by simp
 rw[hs0,show ((0:Nat):Int)=0 from rfl] at H;have hle:decide ((l.length:Int)≤12)=true:=by simp;omega
 have hle':decide (l.length≤12)=true:=by simp;omega
 clear hown hHold hs0;go_enter func128,ntmps128;go_wp2_with fail;go_loop [1,2] (fun a b=>a=.int .i64 0∧b=.int .i64 l.length) (fun _ _=>1)
 case atStart=>exact⟨rfl,rfl⟩
 case round =>
  obtain⟨rfl,rfl⟩:=hrel;go_wp2_with fail;refine H.out.mono ?_;rintro e w' ⟨rfl,n,rfl⟩;go_wp2_with fail;go_end0
  have hs0:l.toArray.size=l.length:=by simp
  obtain⟨k1,k2⟩:=Go.Sort.insertionSort_holds zaw.swo l.toArray 0 l.length (Nat.zero_le _) (by rw[hs0];exact Nat.le_refl _)
  have hHn:=holds_putRow zav.enc w g 0 l.toArray (Sort.insertionSort (ltOf zav.cmp) l.toArray 0 l.length) HH.out k1.1;have hgrow:w.grownBy ((putRow zav.enc w g 0 (Sort.insertionSort (ltOf zav.cmp) l.toArray 0 l.length)).drewN n) (some g):=by
   refine⟨rfl,rfl,rfl,by show w.heap.size≤(putRow zav.enc w g 0 _).heap.size;rw[size_putRow];exact Nat.le_refl _,fun k hk hne=>?_⟩
   show (w.heap.modify g _)[k]? = w.heap[k]?
   rw[Array.getElem?_modify,if_neg (fun e=>hne (by rw[e]))]
  have hlt:g<w.heap.size:=(HO.out.lt g rfl).2;generalize hd:Sort.insertionSort (ltOf zav.cmp) l.toArray 0 l.length=d' at k1 k2 hHn hgrow;have hs:d'.size=l.length:=by rw[k1.1,hs0]
  refine⟨rfl,(d'.toList).map (·.1),?_,?_,?_,hgrow⟩
  ·refine List.Perm.map _ ?_;have:=k1.2.2;rw[← hs,Array.extract_size,hs,← hs0,Array.extract_size] at this;simpa using this
  ·rw[List.pairwise_map,List.pairwise_iff_getElem];intro i j hi hj hij;have hi':i<d'.size:=by simpa using hi
   have hj':j<d'.size:=by simpa using hj
   have:=k2 i j (Nat.zero_le _) hij (by omega)
   rw[getElem!_pos d' j hj',getElem!_pos d' i hi'] at this;have h3:=of_decide_eq_false (show decide (z2u d'[j].1 d'[i].1<0)=false from this);simpa using h3
  ·rw[List.length_map];obtain⟨A',c',e,h1,h2,-⟩:=Row.of_own HO.out;injection e with e1 e2 e3
   subst e3;refine⟨_,_,rfl,h1,h2,by simp [hs],fun h=>(by cases h),fun _=>⟨_,rfl,Nat.lt_of_lt_of_le hlt hgrow.size,fun j u hu=>?_⟩⟩
   have hadd:(⟨g,0,none⟩:Addr).add j=⟨g,j,none⟩:=by unfold Addr.add;split <;> simp_all
   rw[hadd];rw[List.map_map,List.getElem?_map,Option.map_eq_some_iff] at hu;obtain⟨x,hx,rfl⟩:=hu;rw[List.getElem?_eq_some_iff] at hx;obtain⟨hj,hx⟩:=hx;have hj':j<d'.size:=by simpa using hj
   have:=(hHn j hj').1;rw[Nat.zero_add,getElem!_pos d' j hj'] at this;have hx':d'[j]=x:=by simpa using hx
   rw[hx'] at this;exact this
theorem zb1 (A:Option Addr)(c:Nat)(lim:Int)(w:World):
  Calls prog 128 #[.slice A 0 c,.int .i64 0,.int .i64 0,.int .i64 lim,.func (.func 55) #[] #[]] w fun e w'=>e=.returned (.tuple #[])∧w=w':=by
 have H:=hd_ (zaz A c w);go_enter func128,ntmps128;go_wp2_with fail;go_loop [1,2] (fun a b=>a=.int .i64 0∧b=.int .i64 0) (fun _ _=>1)
 case atStart=>exact⟨rfl,rfl⟩
 case round =>
  obtain⟨rfl,rfl⟩:=hrel;go_wp2_with fail;refine H.out.mono ?_;rintro e w' ⟨rfl,rfl⟩;go_wp2_with fail;exact bodyPost_ret (v:=.tuple #[]) (by simp [results,results128,go_sem]) rfl ⟨rfl,rfl⟩
theorem zb2 (l:List ByteArray)(v:Value)(base:Nat)(w:World)(hown:w.ownsRow base 9 1 v l.length (l.map .string))(hl:l.length≤12)(hv:∀ x∈l,z2s x=true∧x.size≤1000000):
  Calls prog 71 #[v,.func (.func 55) #[] #[]] w (SrPost w base v l):=by
 obtain⟨A,c,rfl⟩:=z0o hown;have HL:=hd_ (Tryz.bits_Len (l.length:Int) w (by omega) (by omega))
 have hw:IntKind.u64.wrap (l.length:Int)=(l.length:Int):=by simp [IntKind.wrap,IntKind.bits,IntKind.signed];omega
 by_cases h0:l.length=0
 ·have hl0:l=[]:=List.eq_nil_of_length_eq_zero h0;subst hl0;have H:=hd_ (fun lim=>zb1 A c lim w);have HO:=hd_ hown;clear hown hv;go_enter func71,ntmps71;go_wp2_with fail;refine HL.out.mono ?_;rintro e w' ⟨rfl,rfl⟩;go_wp2_with fail;refine (H.out _).mono ?_;rintro e w' ⟨rfl,rfl⟩;go_wp2_with fail;go_end0
  exact⟨rfl,[],List.Perm.refl _,List.Pairwise.nil,Row.of_own HO.out,⟨rfl,rfl,rfl,Nat.le_refl _,fun _ _ _=>rfl⟩⟩
 ·obtain⟨l',rfl⟩:=zay hv;rw[List.length_map] at h0 hl hw HL;have H:=hd_ (fun lim=>zb0 l' (.slice A (l'.map (·.1)).length c) base lim w (by rw[List.map_map] at hown;rw[List.length_map] at hown ⊢;exact hown) hl (by omega))
  rw[List.length_map] at H ⊢;clear hown hv;go_enter func71,ntmps71;go_wp2_with fail;refine HL.out.mono ?_;rintro e w' ⟨rfl,rfl⟩;go_wp2_with fail;refine (H.out _).mono ?_;rintro e w' ⟨rfl,h1⟩;have H1:=hd_ h1;clear h1;go_wp2_with fail;go_end0
  exact⟨rfl,H1.out⟩
theorem zb3 {w w':World}(h:Below w.heap.size w w')(row:Option Nat):w.grownBy w' row:=⟨h.os,h.tape,h.output,h.size,fun k hk _=>h.block k hk⟩
theorem zb4 {w:World}{B:Nat}{es:Array MapEntry}{c:Nat}(h:w.heap[B]? = some (.map es c))(a:Addr)(ha:a.block=B):¬ ∃ v,w.cell? a=some v:=by
 rintro⟨v,hv⟩;subst ha;unfold World.cell? at hv
 rw[h] at hv;simp at hv
theorem z2f.obj {κ α:Type}[BEq κ]{kv:κ→Value}{enc:α→Value}{w:World}{B:Nat}{f:κ→Option α}(h:z2f kv enc w B f):∃ es c,w.heap[B]? = some (.map es c):=by
 obtain⟨m,⟨es,c,h,_⟩,_⟩:=h;exact⟨es,c,h⟩
theorem Row.turn {w w':World}{size n B:Nat}{v:Value}{xs:List Value}(h:Row w size v n xs)(hs:0<size)(hm:∃ es c,w.heap[B]? = some (.map es c))(hg:w.grownBy w' (some B)):Row w' size v n xs:=by
 obtain⟨A,c,rfl,hc,hm',hl,h0,hx⟩:=h;refine⟨A,c,rfl,hc,hm',hl,h0,fun hn=>?_⟩;obtain⟨ad,e,hb,hcell⟩:=hx hn;obtain⟨es,c2,hB⟩:=hm;have hne:some ad.block≠some B:=by
  intro e2;injection e2 with e2
  have hpos:0<xs.length:=by rw[hl];exact Nat.mul_pos hn hs
  exact zb4 hB (ad.add 0) (by rw[z00];exact e2) ⟨xs[0],hcell 0 _ (by simp [hpos])⟩
 refine⟨ad,e,by have:=hg.size;omega,fun j u hu=>?_⟩
 exact hg.cell (hcell j u hu) (by rw[z00];exact hne)
theorem Blk.turn {w w':World}{g B:Nat}{e:TypeId}{cs:List Value}(h:Blk w g e cs)(hm:∃ es c,w.heap[B]? = some (.map es c))(hg:w.grownBy w' (some B)):Blk w' g e cs:=by
 refine Blk.grown h hg ?_;intro e2;injection e2 with e2
 subst e2;obtain⟨es,c,hB⟩:=hm;unfold Blk at h;rw[hB] at h;cases h
theorem zb5 (p:ByteArray)(b:Bool)(h:z2s p=b)(w:World)(hp:p.size≤140737488355328):Calls prog 70 #[.string p] w fun e w'=>e=.returned (.bool b)∧w=w':=by
 rw[← h];exact z3c p w hp
theorem ze8:z2l.toList=[]:=by rw[ByteArray.toList_eq];rfl
theorem ze9 {s:ByteArray}(h:s=z2l):s.toList=[]:=by subst h;exact ze8
theorem zea {s:ByteArray}(h:s≠z2l):¬ s.toList=[]:=by
 intro e;apply h
 rw[← toList_inj,e,ze8]
theorem zeb {s:ByteArray}(h:s≠z2l):s.toList.isEmpty=false:=by
 have:=zea h;cases hs:s.toList with
 | nil=>exact absurd hs this
 | cons a l=>rfl
theorem zec (a b:ByteArray):(a.toList == b.toList)=decide (a=b):=by
 rw[Bool.eq_iff_iff,beq_iff_eq,decide_eq_true_eq,toList_inj]
def natV (n:Nat):Value:=.int .i64 n
def zed (w:World)(B:Nat)(cnt:ByteArray→Nat):Prop:=∃ f,z2f Value.string natV w B f∧∀ p,(f p).getD 0=cnt p
theorem zee (w:World):(zeroValue 3).run prog w=.ok (natV 0) w:=by kernel_rfl
section
variable {w w' : World} {B : Nat} {cnt : ByteArray → Nat}
theorem zed.new (w:World):zed (w.alloc (.map #[] 0)) w.heap.size (fun _=>0):=⟨_,z2f.new _ _ w,fun _=>rfl⟩
theorem zed.alloc (h:zed w B cnt)(o:Obj):zed (w.alloc o) B cnt:=by obtain⟨f,h,r⟩:=h;exact⟨f,h.alloc o,r⟩
theorem zed.lt (h:zed w B cnt):B<w.heap.size:=by obtain⟨f,h,r⟩:=h;exact h.lt
theorem zed.look (h:zed w B cnt)(p:ByteArray):(Instr.lookup 162 (.map (some B)) (.string p) false).run prog w=.ok (.int .i64 (cnt p)) w:=by
 obtain⟨f,h,r⟩:=h;rw[z2f.lookup h z7v underlying162 (zee w) p false,← r p];unfold z2h;cases f p <;> rfl
end
def zef (q:ByteArray)(p:Rev→Bool)(o:Option Rev)(r:Rev):Option Rev:=
 if r.path=q∧p r=true then (match o with
  | none=>some r
  | some b=>if b.num<r.num then some r else some b) else o
theorem zeg (revs:List Rev)(q:ByteArray)(p:Rev→Bool):z30 revs q p=revs.foldl (zef q p) none:=rfl
def zeh (o:Option Rev):Rev:=o.getD z2m
theorem far12 {w:World}{g g':Nat}{e:TypeId}{cs:List Value}(h:Blk w g' e cs)(hg:g≠g')(r:Rev):Blk ((((((((((((w.setCell ⟨g,0,none⟩ (.string r.path)).setCell ⟨g,1,none⟩ (.int .i64 r.num)).setCell ⟨g,2,none⟩ (.int .i64 r.chg)).setCell ⟨g,3,none⟩ (.int .i64 r.act)).setCell ⟨g,4,none⟩ (.int .i64 r.ty.base)).setCell ⟨g,5,none⟩ (.bool r.ty.k)).setCell ⟨g,6,none⟩ (.bool r.ty.l)).setCell ⟨g,7,none⟩ (.bool r.ty.x)).setCell ⟨g,8,none⟩ (.int .u64 r.sum)).setCell ⟨g,9,none⟩ (.int .i64 r.size)).setCell ⟨g,10,none⟩ (.string r.frm)).setCell ⟨g,11,none⟩ (.int .i64 r.fnum)) g' e cs:=
 ((((((((((((h.far (p:=⟨g,0,none⟩) hg _).far (p:=⟨g,1,none⟩) hg _).far (p:=⟨g,2,none⟩) hg _).far (p:=⟨g,3,none⟩) hg _).far (p:=⟨g,4,none⟩) hg _).far (p:=⟨g,5,none⟩) hg _).far (p:=⟨g,6,none⟩) hg _).far (p:=⟨g,7,none⟩) hg _).far (p:=⟨g,8,none⟩) hg _).far (p:=⟨g,9,none⟩) hg _).far (p:=⟨g,10,none⟩) hg _).far (p:=⟨g,11,none⟩) hg _)
theorem zlw {x y:ByteArray}(hy:z7e y=false):z9x x y=decide (x=y):=by
 unfold z9x;rw[hy];by_cases h:x=y
 ·rw[if_pos h,decide_eq_true h]
 ·rw[if_neg h,decide_eq_false h];rfl
theorem zlx {x y:ByteArray}(hx:z7e x=true)(hy:z7e y=true):z9x x y=Lib.hasSuffix (z85 x).data.toList (z85 y).data.toList:=by
 unfold z9x;rw[hx,hy];by_cases h:x=y
 ·rw[if_pos h,h];symm
  unfold Lib.hasSuffix;exact List.isSuffixOf_iff_suffix.2 (List.suffix_refl _)
 ·rw[if_neg h];rfl
theorem zly {x y:ByteArray}(hx:z7e x=false)(hy:z7e y=true):z9x x y=z87 y x:=by
 unfold z9x;rw[hx,hy];rw[if_neg (fun h=>by rw[h,hy] at hx;cases hx)];rfl
theorem zlz {x:ByteArray}(h:z7g x≠0)(hx:z7e x=false):z0v x=true:=by
 unfold z7g at h;rw[hx] at h;cases hc:z0v x with
 | true=>rfl
 | false=>rw[hc] at h;exact absurd rfl h
theorem zm0 (x y:ByteArray)(w:World)(hx:z7g x≠0)(hy:z7g y≠0)(zx:x.size≤1000000)(zy:y.size≤1000000):
  Calls prog 117 #[.string x,.string y] w fun e w'=>e=.returned (.bool (z9x x y))∧Below w.heap.size w w':=by
 have HX:=hd_ (fun X=>z9s x X (by unfold maxLen;omega))
 have HY:=hd_ (fun X=>z9s y X (by unfold maxLen;omega))
 have HC:=hd_ (fun X=>z9w y x X (by unfold maxLen;omega) (by unfold maxLen;omega))
 have HS:=hd_ (fun X=>z9u (z85 x) (z85 y) X _ (by unfold z85;rw[ByteArray.size_extract];omega) rfl)
 unfold z9p at HX HY;rw[z9g hx] at HX;rw[z9g hy] at HY;cases hsy:z7e y with
 | false =>
  have HR:=hd_ (zlw (x:=x) hsy);have HE:=hd_ (z89 x y);rw[hsy] at HY;clear hsy HC HS;generalize z7e x=sx at HX;generalize (if sx=true then z85 x else z2l)=ux at HX;go_enter func117,ntmps117;go_wp2_with fail;refine (HX.out _).mono ?_;rintro e w' ⟨rfl,rfl⟩;go_wp2_with fail;refine (HY.out _).mono ?_;rintro e w' ⟨rfl,rfl⟩;go_wp2_with fail;go_ret;exact⟨by rw[HR.out,← HE.out];rfl,Below.refl _ _⟩
 | true =>
  cases hsx:z7e x with
  | true =>
   have HR:=hd_ (zlx hsx hsy);rw[hsy] at HY;rw[hsx] at HX;rw[if_pos rfl] at HX HY;clear hsy hsx HC;generalize z85 x=ux at HX HS HR;generalize z85 y=uy at HY HS HR;generalize Lib.hasSuffix ux.data.toList uy.data.toList=b at HS HR;go_enter func117,ntmps117;go_wp2_with fail;refine (HX.out _).mono ?_;rintro e w' ⟨rfl,rfl⟩;go_wp2_with fail;refine (HY.out _).mono ?_;rintro e w' ⟨rfl,rfl⟩;go_wp2_with fail;refine (HS.out _).mono ?_;rintro e w' ⟨rfl,rfl⟩;go_wp2_with fail;go_ret;exact⟨by rw[HR.out];rfl,Below.refl _ _⟩
  | false =>
   have HR:=hd_ (zly hsx hsy);rw[z9l hy (zlz hx hsx)] at HC;rw[hsy] at HY;rw[hsx] at HX;clear hsy hsx HS;rw[if_pos rfl] at HY;generalize z85 y=uy at HY;generalize z87 y x=b at HC HR;generalize z9c y x=c at HC;go_enter func117,ntmps117;go_wp2_with fail;refine (HX.out _).mono ?_;rintro e w' ⟨rfl,rfl⟩;go_wp2_with fail;refine (HY.out _).mono ?_;rintro e w' ⟨rfl,rfl⟩;go_wp2_with fail;refine (HC.out _).mono ?_;rintro e w' ⟨rfl,rfl⟩;go_wp2_with fail;go_ret;exact⟨by rw[HR.out];rfl,Below.refl _ _⟩
