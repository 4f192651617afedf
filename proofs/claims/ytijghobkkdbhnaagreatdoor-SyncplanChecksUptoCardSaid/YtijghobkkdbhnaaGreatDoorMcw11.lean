/- A part. -/
import Derived.Test.YtijghobkkdbhnaaGreatDoorMcw9
import Derived.Test.YtijghobkkdbhnaaGreatDoorMcw10
import Derived.Maps.OwnSet
import Derived.Deep.CutBlock
set_option linter.unusedVariables false
set_option linter.unusedSimpArgs false
set_option maxHeartbeats 4000000
set_option maxRecDepth 100000
namespace Go.Proofs.YtijghobkkdbhnaaGreatDoor
open Go.Proofs.Tryz
open Go.RowKit
open Go.Sort (grow)
def z4y (x:Syn):List Hav:=if x.dst=z2q then [] else [⟨x.path,x.num,x.dst⟩]
def z4z (x:Syn):List Hav:=if z3t x.kind then [] else z4y x
def z50 (p:ByteArray):List Syn→List Hav
 | []=>[]
 | x :: r=>if z2z x.path p<0 then z4z x++z50 p r else []
def z52 (p:ByteArray):List Syn→List Syn
 | []=>[]
 | x :: r=>if z2z x.path p<0 then z52 p r else x :: r
def z54 (h:Hav):List Syn→List Hav
 | []=>[h]
 | x :: r=>if x.path=h.path then (if z3t x.kind then [h] else z4y x) else [h]
def z55 (h:Hav):List Syn→List Syn
 | []=>[]
 | x :: r=>if x.path=h.path then r else x :: r
def z56:List Hav→List Syn→List Hav
 | [],ps=>ps.flatMap z4z
 | h :: hs,ps=>z50 h.path ps++z54 h (z52 h.path ps)++z56 hs (z55 h (z52 h.path ps))
def z57 (w:World)(v:Value)(l:List Syn):Prop:=Row w 5 v l.length (l.flatMap Syn.cells)
def z58 (w:World)(a:Addr)(x:Syn):Prop:=w.cell? a=some (.int .i64 x.kind)∧w.cell? ⟨a.block,a.off+1,none⟩=some (.string x.path)∧w.cell? ⟨a.block,a.off+2,none⟩=some (.int .i64 x.num)∧w.cell? ⟨a.block,a.off+3,none⟩=some (.string x.frm)∧w.cell? ⟨a.block,a.off+4,none⟩=some (.string x.dst)
theorem z57.at_ {w:World}{A:Option Addr}{c:Nat}{l:List Syn}(h:z57 w (.slice A l.length c) l){k:Nat}(hk:k<l.length):
  ∃ ad,A=some ad∧ad.block<w.heap.size∧z58 w (ad.add (k * 5)) l[k]:=by
 obtain⟨ad,e,hb,hc⟩:=z4f (f:=Syn.cells) (n:=5) (fun _=>rfl) h hk;exact⟨ad,e,hb,hc 0 _ rfl,hc 1 _ rfl,hc 2 _ rfl,hc 3 _ rfl,hc 4 _ rfl⟩
theorem z57.head {w:World}{A:Option Addr}{c n:Nat}{x:Syn}{r:List Syn}(h:z57 w (.slice A n c) (x :: r)):
  n=r.length+1∧∃ ad,A=some ad∧ad.block<w.heap.size∧z58 w ad x:=by
 have hn:n=(x :: r).length:=by obtain⟨A',c',e,-⟩:=id h;injection e
 subst hn;obtain⟨ad,e,hb,hc⟩:=z57.at_ (k:=0) h (by simp)
 refine⟨rfl,ad,e,hb,?_⟩;have:ad.add (0 * 5)=ad:=by unfold Addr.add;simp
 rw[this] at hc;exact hc
theorem z57.below {w w':World}{v:Value}{l:List Syn}(h:z57 w v l)(hb:zB w w'):z57 w' v l:=Row.below h hb
theorem z4h.below {w w':World}{v:Value}{l:List Hav}(h:z4h w v l)(hb:zB w w'):z4h w' v l:=Row.below h hb
theorem z59 (w:World):(sizeOf 50).run prog w=.ok 5 w:=by kernel_rfl
theorem z57.tail {w:World}{A:Option Addr}{c n:Nat}{x:Syn}{r:List Syn}(h:z57 w (.slice A n c) (x :: r)):
  ∃ A' c',(Instr.sliceAt 43 (.slice A n c) (some (.int .i64 1)) none none).run prog w=.ok (.slice A' r.length c') w∧z57 w (.slice A' r.length c') r:=by
 have hn:n=(x :: r).length:=by obtain⟨A',c',e,-⟩:=id h;injection e
 subst hn;obtain⟨A',c',h1,h2⟩:=z0b (P:=prog) (w:=w) (x:=1) (kx:=.i64) (lo:=1) underlying43 z59 h (by simp) rfl
 exact⟨A',c',h1,h2⟩
theorem z5a:z0e prog 28 96 3 40:=z0f underlying28 (z:=.agg #[.string ⟨#[]⟩,.int .i64 0,.string ⟨#[]⟩]) (by kernel_rfl) rfl (by decide)
structure Aft (w0 w:World)(b:Nat)(l:List Hav)(v:Value):Prop where
 bel:Below b w0 w
 box:Blk w b 28 [v]
 row:w.ownsRow (b+1) 96 3 v l.length (l.flatMap Hav.cells)
def Kp (b:Nat)(w w':World)(v v':Value):Prop:=w.heap.size≤w'.heap.size∧∀ k,k<w.heap.size→k≠b→v.ownBlock≠some k→w'.heap[k]? = w.heap[k]?∧v'.ownBlock≠some k
theorem Kp.refl (b:Nat)(w:World)(v:Value):Kp b w w v v:=⟨Nat.le_refl _,fun k _ _ h=>⟨rfl,h⟩⟩
theorem Kp.below {b:Nat}{w w':World}{v:Value}(h:zB w w'):Kp b w w' v v:=⟨h.size,fun k hk _ h2=>⟨h.block k hk,h2⟩⟩
theorem Kp.trans {b:Nat}{w w' w2:World}{v v' v2:Value}(h:Kp b w w' v v')(h2:Kp b w' w2 v' v2):Kp b w w2 v v2:=
 ⟨Nat.le_trans h.1 h2.1,fun k hk hb hv=>by
  obtain⟨a1,a2⟩:=h.2 k hk hb hv;obtain⟨c1,c2⟩:=h2.2 k (Nat.lt_of_lt_of_le hk h.1) hb a2;exact⟨c1.trans a1,c2⟩⟩
theorem Kp.blk {b g:Nat}{w w':World}{v v':Value}{e:TypeId}{cs:List Value}(h:Kp b w w' v v')(hB:Blk w g e cs)(hg:g≠b)(hv:v.ownBlock≠some g):Blk w' g e cs∧v'.ownBlock≠some g:=by
 obtain⟨a1,a2⟩:=h.2 g hB.lt hg hv;exact⟨a1.trans hB,a2⟩
theorem Aft.under {w0 w X:World}{b:Nat}{l:List Hav}{v:Value}(h:Aft w0 w b l v)(hX:zB w X):Aft w0 X b l v:=
 ⟨h.bel.trans (hX.mono (Nat.le_of_lt h.box.lt)),h.box.below hX h.box.lt,z0n h.row hX⟩
theorem z5b (x:Hav):∀ v∈x.cells,v.oneCell'=true:=by
 intro v hv;simp only[Hav.cells,List.mem_cons,List.not_mem_nil,or_false] at hv
 rcases hv with rfl | rfl | rfl <;> rfl
theorem z5c {α β:Type}(f:α→List β)(l:List α)(x:α):(l++[x]).flatMap f=l.flatMap f++f x:=by simp
theorem Aft.push {w0 w w2:World}{b:Nat}{l:List Hav}{v:Value}{x:Hav}{A':Option Addr}{c':Nat}(h:Aft w0 w b l v)
  (hown:w2.ownsRow (b+1) 96 3 (.slice A' (l.length+1) c') (l.length+1) (l.flatMap Hav.cells++x.cells)) (hgr:w.grownBy w2 v.ownBlock)
  (hob:(Value.slice A' (l.length+1) c').ownBlock=v.ownBlock∨(Value.slice A' (l.length+1) c').ownBlock=some w.heap.size):
  Aft w0 (w2.setCell ⟨b,0,none⟩ (.slice A' (l.length+1) c')) b (l++[x]) (.slice A' (l.length+1) c')∧Kp b w (w2.setCell ⟨b,0,none⟩ (.slice A' (l.length+1) c')) v (.slice A' (l.length+1) c'):=by
 have hl:=h.box.lt;have hb1:∀ k,v.ownBlock=some k→b<k:=fun k e=>by have:=(h.row.lt k e).1;omega
 have hbx:some b≠v.ownBlock:=fun e=>by have:=hb1 b e.symm;omega
 have hbel:Below b w0 w2:=h.bel.grown hgr (Nat.le_of_lt hl) (fun k e=>by have:=hb1 k e;omega)
 have hne:(Value.slice A' (l.length+1) c').ownBlock≠some b:=by
  rcases hob with e | e
  ·rw[e];exact fun e=>hbx e.symm
  ·rw[e];intro e2;injection e2 with e2;omega
 refine⟨⟨hbel.setCell (p:=⟨b,0,none⟩) (Nat.le_refl _) _,(Blk.grown h.box hgr hbx).set_ 0 _,?_⟩,?_,fun k hk hkb hv=>⟨?_,?_⟩⟩
 ·rw[List.length_append,List.length_singleton,z5c];exact z4x hown (p:=⟨b,0,none⟩) hne _
 ·simpa using hgr.size
 ·rw[Below.heap_setCell w2 _ _ k hkb];exact hgr.block k hk (fun e=>hv e.symm)
 ·rcases hob with e | e
  ·rw[e];exact hv
  ·rw[e];intro e2;injection e2 with e2;omega
theorem Aft.alloc {w0 w:World}{b:Nat}{l:List Hav}{v:Value}(h:Aft w0 w b l v)(o:Obj):Aft w0 (w.alloc o) b l v:=h.under ((Below.refl _ _).alloc (Nat.le_refl _) _)
theorem z5d {x:Syn}(h:x.dst=z2q):z4y x=[]:=if_pos h
theorem addS_no {x:Syn}(h:¬ x.dst=z2q):z4y x=[⟨x.path,x.num,x.dst⟩]:=if_neg h
theorem z5e (x:Syn)(w0 w:World)(b:Nat)(l:List Hav)(v:Value)(hA:Aft w0 w b l v)(hl:(l.length+1) * 40≤140737488355328):
  Calls prog 91 #[.agg #[.int .i64 x.kind,.string x.path,.int .i64 x.num,.string x.frm,.string x.dst],.pointer (some ⟨b,0,none⟩)] w fun e w'=>e=.returned (.tuple #[])∧∃ v',Aft w0 w' b (l++z4y x) v'∧Kp b w w' v v':=by
 have hA1:=hA.alloc (.cells #[.int .i64 x.kind,.string x.path,.int .i64 x.num,.string x.frm,.string x.dst] 50);have hK1:Kp b w (w.alloc (.cells #[.int .i64 x.kind,.string x.path,.int .i64 x.num,.string x.frm,.string x.dst] 50)) v v:=Kp.below ((Below.refl _ _).alloc (Nat.le_refl _) _);have hS:=z0l w [.int .i64 x.kind,.string x.path,.int .i64 x.num,.string x.frm,.string x.dst] 50;by_cases h1:x.dst=z2q
 ·have HK:=hd_ (z5d h1);obtain⟨s1,s2⟩:=z40 h1;have HA:=hd_ hA1;have HKp:=hd_ hK1;clear h1 hA hA1 hK1 hS;go_enter func91,ntmps91;go_wp2_with fail;go_end0
  exact⟨rfl,_,by rw[HK.out,List.append_nil];exact HA.out,HKp.out⟩
 ·have HK:=hd_ (addS_no h1);obtain⟨s1,s2⟩:=z41 h1;obtain⟨s3,s4,s5,s6,s7⟩:=z3w (x:=x) hS;have hbx:(w.alloc (.cells #[.int .i64 x.kind,.string x.path,.int .i64 x.num,.string x.frm,.string x.dst] 50)).cell? ⟨b,0,none⟩=some v:=hA1.box.cell 0;have hA2:=hA1.alloc (.cells #[.string x.path,.int .i64 x.num,.string x.dst] 96);have hK2:Kp b w ((w.alloc (.cells #[.int .i64 x.kind,.string x.path,.int .i64 x.num,.string x.frm,.string x.dst] 50)).alloc (.cells #[.string x.path,.int .i64 x.num,.string x.dst] 96)) v v:=Kp.below (((Below.refl _ _).alloc (Nat.le_refl _) _).alloc (by simp) _)
  have hrow:=z0i (w.alloc (.cells #[.int .i64 x.kind,.string x.path,.int .i64 x.num,.string x.frm,.string x.dst] 50)) [.string x.path,.int .i64 x.num,.string x.dst] 96 3 1 rfl (by unfold maxLen;omega) (w.heap.size+1) (by simp)
  obtain⟨A0,c0,rfl⟩:=z0o hA.row;have hsz:b+1≤((w.alloc (.cells #[.int .i64 x.kind,.string x.path,.int .i64 x.num,.string x.frm,.string x.dst] 50)).alloc (.cells #[.string x.path,.int .i64 x.num,.string x.dst] 96)).heap.size:=by have:=hA.box.lt;simp;omega
  clear h1 hA hA1 hK1 hS;go_enter func91,ntmps91;go_wp2_with (at_builtin;refine z0j rfl rfl z5a hA2.row rfl hrow rfl (z5b ⟨x.path,x.num,x.dst⟩) hl (by unfold maxLen;omega) hsz ?_;intro A' c' w2 hown hgr hob;obtain⟨hA3,hK3⟩:=hA2.push (x:=⟨x.path,x.num,x.dst⟩) hown hgr hob;have hbw:=Blk.grown hA2.box hgr (fun e=>by have:=(hA2.row.lt b e.symm).1;omega);have hfz:=hbw.frozen 0;have hcl:w2.cell? ⟨b,0,none⟩=some (.slice A0 l.length c0):=hbw.cell 0)
  go_end0
  exact⟨rfl,_,by rw[HK.out];exact hA3,hK2.trans hK3⟩
section
variable {α : Type} {k : α → ByteArray}
def z63 (k:α→ByteArray)(l:List α):Prop:=l.Pairwise (fun a b=>z2z (k a) (k b)<0)
def z64 (k:α→ByteArray)(l:List α)(p:ByteArray):Option α:=l.find? (fun a=>decide (k a=p))
theorem z65 {a b:ByteArray}(h:z2z a b<0):a≠b:=fun e=>by rw[e,z5k] at h;omega
theorem z66 {a b:ByteArray}(h:z2z a b<0):¬ z2z b a<0:=by rw[z5w];omega
theorem z63.tail {a:α}{l:List α}(h:z63 k (a :: l)):z63 k l:=(List.pairwise_cons.1 h).2
theorem z63.head {a:α}{l:List α}(h:z63 k (a :: l)):∀ b∈l,z2z (k a) (k b)<0:=(List.pairwise_cons.1 h).1
theorem z67 {l:List α}{p:ByteArray}{a:α}(h:z64 k l p=some a):a∈l∧k a=p:=
 ⟨List.mem_of_find?_eq_some h,by simpa using List.find?_some h⟩
theorem z68 {l:List α}{p:ByteArray}:z64 k l p=none↔∀ a∈l,k a≠p:=by
 unfold z64;rw[List.find?_eq_none];simp
theorem z69 (a:α)(l:List α)(p:ByteArray):z64 k (a :: l) p=if k a=p then some a else z64 k l p:=by
 unfold z64;rw[List.find?_cons];by_cases h:k a=p
 ·rw[if_pos h,decide_eq_true h]
 ·rw[if_neg h,decide_eq_false h]
theorem z6a (l m:List α)(p:ByteArray):z64 k (l++m) p=(z64 k l p).or (z64 k m p):=by
 unfold z64;exact List.find?_append ..
theorem z6b {l:List α}(h:z63 k l){a:α}(ha:a∈l):z64 k l (k a)=some a:=by
 induction l with
 | nil=>cases ha
 | cons b l ih =>
  rw[z69];by_cases e:k b=k a
  ·rw[if_pos e];rcases List.mem_cons.1 ha with rfl | ha
   ·rfl
   ·exact absurd e (z65 (h.head a ha))
  ·rw[if_neg e];rcases List.mem_cons.1 ha with rfl | ha
   ·exact absurd rfl e
   ·exact ih h.tail ha
theorem z6c {l m:List α}(hl:z63 k l)(hm:z63 k m)(h:∀ a,a∈l↔a∈m):l=m:=by
 induction l generalizing m with
 | nil =>
  cases m with
  | nil=>rfl
  | cons b m=>exact absurd ((h b).2 (List.mem_cons_self ..)) (by simp)
 | cons a l ih =>
  cases m with
  | nil=>exact absurd ((h a).1 (List.mem_cons_self ..)) (by simp)
  | cons b m =>
   have hab:a=b:=by
    rcases List.mem_cons.1 ((h a).1 (List.mem_cons_self ..)) with e | h1
    ·exact e
    ·rcases List.mem_cons.1 ((h b).2 (List.mem_cons_self ..)) with e | h2
     ·exact e.symm
     ·exact absurd (hm.head a h1) (z66 (hl.head b h2))
   subst hab;congr 1
   refine ih hl.tail hm.tail fun x=>⟨fun hx=>?_,fun hx=>?_⟩
   ·rcases List.mem_cons.1 ((h x).1 (List.mem_cons_of_mem _ hx)) with rfl | h1
    ·exact absurd rfl (z65 (hl.head _ hx))
    ·exact h1
   ·rcases List.mem_cons.1 ((h x).2 (List.mem_cons_of_mem _ hx)) with rfl | h1
    ·exact absurd rfl (z65 (hm.head _ hx))
    ·exact h1
theorem z6d {l m:List α}(hl:z63 k l)(hm:z63 k m)(h:∀ p,z64 k l p=z64 k m p):l=m:=
 z6c hl hm fun a=>⟨fun ha=>(z67 ((h (k a)).symm.trans (z6b hl ha))).1,fun ha=>(z67 ((h (k a)).trans (z6b hm ha))).1⟩
theorem z6e {l m:List α}(hl:z63 k l)(hm:z63 k m)(h:∀ a∈l,∀ b∈m,z2z (k a) (k b)<0):z63 k (l++m):=List.pairwise_append.2 ⟨hl,hm,h⟩
theorem z6f {β:Type}{kb:β→ByteArray}{f:α→β}{l:List α}(h:z63 k l)(hf:∀ a,kb (f a)=k a):z63 kb (l.map f):=by
 unfold z63;rw[List.pairwise_map];exact h.imp fun {a b} hab=>by rw[hf,hf];exact hab
theorem z6g {β:Type}{kb:β→ByteArray}{f:α→β}(hf:∀ a,kb (f a)=k a)(l:List α)(p:ByteArray):z64 kb (l.map f) p=(z64 k l p).map f:=by
 induction l with
 | nil=>rfl
 | cons a l ih =>
  rw[List.map_cons,z69,z69,hf];split
  ·rfl
  ·exact ih
theorem z6h {l:List α}(h:z63 k l)(f:α→Bool):z63 k (l.filter f):=h.sublist List.filter_sublist
end
abbrev z6i:=z63 Hav.path
abbrev z6j:=z63 Syn.path
abbrev z6k:=z64 Hav.path
abbrev z6l:=z64 Syn.path
def z6m (w:Hav):Syn:=⟨0,w.path,w.num,z2q,w.loc⟩
def z6n (h:Hav):Syn:=⟨0,h.path,0,h.loc,z2q⟩
def updT (h w:Hav):Syn:=⟨0,w.path,w.num,h.loc,w.loc⟩
instance:DecidableEq Hav:=fun a b=>by
 cases a;cases b
 rw[Hav.mk.injEq];exact inferInstance
def z6o:Nat→List Hav→List Hav→List Syn
 | 0,_,_=>[]
 | _+1,[],[]=>[]
 | n+1,h :: hs,[]=>z6n h :: z6o n hs []
 | n+1,[],w :: ws=>z6m w :: z6o n [] ws
 | n+1,h :: hs,w :: ws=>if z2z h.path w.path<0 then z6n h :: z6o n hs (w :: ws) else if 0<z2z h.path w.path then z6m w :: z6o n (h :: hs) ws else (if h=w then [] else [updT h w])++z6o n hs ws
def z6p (h w:Option Hav):Option Syn:=
 match h,w with
 | none,none=>none
 | some h,none=>some (z6n h)
 | none,some w=>some (z6m w)
 | some h,some w=>if h=w then none else some (updT h w)
theorem z6q:∀(n:Nat) (hs ws:List Hav) (x:Syn),x∈z6o n hs ws→(∃ h∈hs,h.path=x.path)∨∃ w∈ws,w.path=x.path
 | 0,_,_,x,h=>by simp [z6o] at h
 | _+1,[],[],x,h=>by simp [z6o] at h
 | n+1,h :: hs,[],x,hx=>by
  simp only[z6o,List.mem_cons] at hx
  rcases hx with rfl | hx
  ·exact .inl ⟨h,List.mem_cons_self ..,rfl⟩
  ·rcases z6q n hs [] x hx with⟨y,hy,e⟩ | ⟨y,hy,e⟩
   ·exact .inl ⟨y,List.mem_cons_of_mem _ hy,e⟩
   ·cases hy
 | n+1,[],w :: ws,x,hx=>by
  simp only[z6o,List.mem_cons] at hx
  rcases hx with rfl | hx
  ·exact .inr ⟨w,List.mem_cons_self ..,rfl⟩
  ·rcases z6q n [] ws x hx with⟨y,hy,e⟩ | ⟨y,hy,e⟩
   ·cases hy
   ·exact .inr ⟨y,List.mem_cons_of_mem _ hy,e⟩
 | n+1,h :: hs,w :: ws,x,hx=>by
  simp only[z6o] at hx
  split at hx
  ·rcases List.mem_cons.1 hx with rfl | hx
   ·exact .inl ⟨h,List.mem_cons_self ..,rfl⟩
   ·rcases z6q n hs (w :: ws) x hx with⟨y,hy,e⟩ | ⟨y,hy,e⟩
    ·exact .inl ⟨y,List.mem_cons_of_mem _ hy,e⟩
    ·exact .inr ⟨y,hy,e⟩
  ·split at hx
   ·rcases List.mem_cons.1 hx with rfl | hx
    ·exact .inr ⟨w,List.mem_cons_self ..,rfl⟩
    ·rcases z6q n (h :: hs) ws x hx with⟨y,hy,e⟩ | ⟨y,hy,e⟩
     ·exact .inl ⟨y,hy,e⟩
     ·exact .inr ⟨y,List.mem_cons_of_mem _ hy,e⟩
   ·rcases List.mem_append.1 hx with hx | hx
    ·split at hx
     ·cases hx
     ·rw[List.mem_singleton] at hx;subst hx;exact .inr ⟨w,List.mem_cons_self ..,rfl⟩
    ·rcases z6q n hs ws x hx with⟨y,hy,e⟩ | ⟨y,hy,e⟩
     ·exact .inl ⟨y,List.mem_cons_of_mem _ hy,e⟩
     ·exact .inr ⟨y,List.mem_cons_of_mem _ hy,e⟩
theorem z6r {a b:ByteArray}(ha:z2x a=true)(hb:z2x b=true)(h1:¬ z2z a b<0)(h2:¬ 0<z2z a b):a=b:=z5x ha hb (by omega)
theorem z6s:∀(n:Nat) (hs ws:List Hav),hs.length+ws.length≤n→z6i hs→z6i ws→(∀ x∈hs,z2x x.path=true)→(∀ x∈ws,z2x x.path=true) →
  z6j (z6o n hs ws)∧∀ p,z6l (z6o n hs ws) p=z6p (z6k hs p) (z6k ws p)
 | 0,hs,ws,hn,_,_,_,_=>by
  have e1:hs=[]:=List.eq_nil_of_length_eq_zero (by omega)
  have e2:ws=[]:=List.eq_nil_of_length_eq_zero (by omega)
  subst e1 e2;exact⟨List.Pairwise.nil,fun p=>rfl⟩
 | _+1,[],[],_,_,_,_,_=>⟨List.Pairwise.nil,fun p=>rfl⟩
 | n+1,h :: hs,[],hn,h1,h2,v1,v2=>by
  obtain⟨i1,i2⟩:=z6s n hs [] (by simp at hn ⊢;omega) h1.tail h2 (fun x hx=>v1 x (List.mem_cons_of_mem _ hx)) v2
  simp only[z6o]
  refine⟨List.pairwise_cons.2 ⟨fun x hx=>?_,i1⟩,fun p=>?_⟩
  ·rcases z6q _ _ _ _ hx with⟨y,hy,e⟩ | ⟨y,hy,e⟩
   ·rw[← e];exact h1.head y hy
   ·cases hy
  ·show z64 Syn.path _ p=_
   rw[z69];show _=z6p (z64 Hav.path (h :: hs) p) (z64 Hav.path [] p)
   rw[z69];show (if h.path=p then _ else _)=_
   split
   ·rfl
   ·exact i2 p
 | n+1,[],w :: ws,hn,h1,h2,v1,v2=>by
  obtain⟨i1,i2⟩:=z6s n [] ws (by simp at hn ⊢;omega) h1 h2.tail v1 (fun x hx=>v2 x (List.mem_cons_of_mem _ hx))
  simp only[z6o]
  refine⟨List.pairwise_cons.2 ⟨fun x hx=>?_,i1⟩,fun p=>?_⟩
  ·rcases z6q _ _ _ _ hx with⟨y,hy,e⟩ | ⟨y,hy,e⟩
   ·cases hy
   ·rw[← e];exact h2.head y hy
  ·show z64 Syn.path _ p=_
   rw[z69];show _=z6p (z64 Hav.path [] p) (z64 Hav.path (w :: ws) p)
   rw[z69];show (if w.path=p then _ else _)=_
   split
   ·rfl
   ·exact i2 p
 | n+1,h :: hs,w :: ws,hn,h1,h2,v1,v2=>by
  have vh:=v1 h (List.mem_cons_self ..);have vw:=v2 w (List.mem_cons_self ..);have tr:∀ {a b c:ByteArray},z2x a=true→z2x b=true→z2x c=true→z2z a b<0→z2z b c<0→z2z a c<0:=fun x y z=>z5l x y z;simp only[z6o]
  by_cases c1:z2z h.path w.path<0
  ·rw[if_pos c1];obtain⟨i1,i2⟩:=z6s n hs (w :: ws) (by simp at hn ⊢;omega) h1.tail h2 (fun x hx=>v1 x (List.mem_cons_of_mem _ hx)) v2
   refine⟨List.pairwise_cons.2 ⟨fun x hx=>?_,i1⟩,fun p=>?_⟩
   ·rcases z6q _ _ _ _ hx with⟨y,hy,e⟩ | ⟨y,hy,e⟩
    ·rw[← e];exact h1.head y hy
    ·rw[← e];rcases List.mem_cons.1 hy with rfl | hy'
     ·exact c1
     ·exact tr vh vw (v2 y hy) c1 (h2.head y hy')
   ·show z64 Syn.path _ p=_
    rw[z69];show (if h.path=p then _ else _)=z6p (z64 Hav.path (h :: hs) p) (z64 Hav.path (w :: ws) p)
    rw[z69];by_cases e:h.path=p
    ·rw[if_pos e,if_pos e];have:z64 Hav.path (w :: ws) p=none:=z68.2 fun a ha ea=>by
      rcases List.mem_cons.1 ha with rfl | ha'
      ·exact z65 c1 (e.trans ea.symm)
      ·exact z65 (tr vh vw (v2 a ha) c1 (h2.head a ha')) (e.trans ea.symm)
     rw[this];rfl
    ·rw[if_neg e,if_neg e];exact i2 p
  ·rw[if_neg c1];by_cases c2:0<z2z h.path w.path
   ·rw[if_pos c2];have c3:z2z w.path h.path<0:=by rw[z5w];omega
    obtain⟨i1,i2⟩:=z6s n (h :: hs) ws (by simp at hn ⊢;omega) h1 h2.tail v1 (fun x hx=>v2 x (List.mem_cons_of_mem _ hx))
    refine⟨List.pairwise_cons.2 ⟨fun x hx=>?_,i1⟩,fun p=>?_⟩
    ·rcases z6q _ _ _ _ hx with⟨y,hy,e⟩ | ⟨y,hy,e⟩
     ·rw[← e];rcases List.mem_cons.1 hy with rfl | hy'
      ·exact c3
      ·exact tr vw vh (v1 y hy) c3 (h1.head y hy')
     ·rw[← e];exact h2.head y hy
    ·show z64 Syn.path _ p=_
     rw[z69];show (if w.path=p then _ else _)=z6p (z64 Hav.path (h :: hs) p) (z64 Hav.path (w :: ws) p)
     rw[z69 (l:=ws)];by_cases e:w.path=p
     ·rw[if_pos e,if_pos e];have:z64 Hav.path (h :: hs) p=none:=z68.2 fun a ha ea=>by
       rcases List.mem_cons.1 ha with rfl | ha'
       ·exact z65 c3 (e.trans ea.symm)
       ·exact z65 (tr vw vh (v1 a ha) c3 (h1.head a ha')) (e.trans ea.symm)
      rw[this];rfl
     ·rw[if_neg e,if_neg e];exact i2 p
   ·rw[if_neg c2];have ep:=z6r vh vw c1 c2;obtain⟨i1,i2⟩:=z6s n hs ws (by simp at hn ⊢;omega) h1.tail h2.tail (fun x hx=>v1 x (List.mem_cons_of_mem _ hx)) (fun x hx=>v2 x (List.mem_cons_of_mem _ hx))
    have hn1:∀ x∈z6o n hs ws,z2z w.path x.path<0:=fun x hx=>by
     rcases z6q _ _ _ _ hx with⟨y,hy,e⟩ | ⟨y,hy,e⟩
     ·rw[← e,← ep];exact h1.head y hy
     ·rw[← e];exact h2.head y hy
    refine⟨?_,fun p=>?_⟩
    ·split
     ·exact i1
     ·exact List.pairwise_cons.2 ⟨hn1,i1⟩
    ·show _=z6p (z64 Hav.path (h :: hs) p) (z64 Hav.path (w :: ws) p)
     rw[z69,z69];by_cases e:w.path=p
     ·rw[if_pos (ep.trans e),if_pos e];have hno:z64 Syn.path (z6o n hs ws) p=none:=z68.2 fun x hx ex=>z65 (hn1 x hx) (e.trans ex.symm);by_cases eq:h=w
      ·rw[if_pos eq,List.nil_append];show z64 Syn.path _ p=_
       rw[hno];exact (if_pos eq).symm
      ·rw[if_neg eq,List.singleton_append];show z64 Syn.path _ p=_
       rw[z69];show (if w.path=p then _ else _)=_
       rw[if_pos e];exact (if_neg eq).symm
     ·rw[if_neg (fun e2=>e (ep.symm.trans e2)),if_neg e];by_cases eq:h=w
      ·rw[if_pos eq,List.nil_append];exact i2 p
      ·rw[if_neg eq,List.singleton_append];show z64 Syn.path _ p=_
       rw[z69];show (if w.path=p then _ else _)=_
       rw[if_neg e];exact i2 p
section
variable {hs ws : List Hav} {op dt : List ByteArray}
theorem z6t {α:Type}{f:α→Bool}{a:α}(h:f a=true):(some a).filter f=some a:=by
 show (if f a=true then some a else none)=_
 rw[if_pos h]
theorem z6u {α:Type}{f:α→Bool}{a:α}(h:¬ f a=true):(some a).filter f=none:=by
 show (if f a=true then some a else none)=_
 rw[if_neg h]
theorem z6v {α:Type}{k:α→ByteArray}{l:List α}(h:z63 k l)(f:α→Bool)(p:ByteArray):z64 k (l.filter f) p=(z64 k l p).filter f:=by
 induction l with
 | nil=>rfl
 | cons a l ih =>
  rw[z69,List.filter_cons];by_cases e:k a=p
  ·rw[if_pos e];by_cases fa:f a=true
   ·rw[if_pos fa,z69,if_pos e,z6t fa]
   ·rw[if_neg fa,ih h.tail];have:z64 k l p=none:=z68.2 fun b hb eb=>z65 (h.head b hb) (e.trans eb.symm);rw[this,z6u fa];rfl
  ·rw[if_neg e];by_cases fa:f a=true
   ·rw[if_pos fa,z69,if_neg e];exact ih h.tail
   ·rw[if_neg fa];exact ih h.tail
theorem z6w {α β:Type}{f g:α→Option β}:∀ {l:List α},(∀ x∈l,f x=g x)→l.filterMap f=l.filterMap g
 | [],_=>rfl
 | a :: l,h=>by
  rw[List.filterMap_cons,List.filterMap_cons,h a (List.mem_cons_self ..),z6w fun x hx=>h x (List.mem_cons_of_mem _ hx)]
end
def z9i (l r:Pat):Int:=if z7g l≠0 then 40 else if z7g r≠0 then 41 else if z9c l≠z9c r∨l.rest≠r.rest then 42 else 0
def z9j (w:World)(v:Value)(p:Pat):Prop:=Strs w v p.parts∧∀ x∈p.parts,x.size≤1000000
theorem z9j.below {w w':World}{v:Value}{p:Pat}(h:z9j w v p)(hb:zB w w'):z9j w' v p:=⟨Strs.below h.1 hb,h.2⟩
theorem z9j.small {w:World}{v:Value}{p:Pat}(h:z9j w v p):∀ x∈p.parts,x.size≤maxLen:=fun x hx=>by have:=h.2 x hx;unfold maxLen;omega
theorem z9k (ex:Bool)(l r:Pat)(A B:Option Addr)(a b:Nat)(w:World)(hL:z9j w (.slice A l.parts.length a) l)(hR:z9j w (.slice B r.parts.length b) r):
  Calls prog 119 #[.agg #[.bool ex,.slice A l.parts.length a,.bool l.rest,.slice B r.parts.length b,.bool r.rest]] w fun e w'=>e=.returned (.int .i64 (z9i l r))∧zB w w':=by
 have hB:=z0l w [.bool ex,.slice A l.parts.length a,.bool l.rest,.slice B r.parts.length b,.bool r.rest] 74;have hA:zB w (w.alloc (.cells #[.bool ex,.slice A l.parts.length a,.bool l.rest,.slice B r.parts.length b,.bool r.rest] 74)):=(Below.refl _ _).alloc (Nat.le_refl _) _;have HKL:=hd_ (fun X (hX:zB w X)=>z9h l A a X (hL.below hX).1 hL.small);have HKR:=hd_ (fun X (hX:zB w X)=>z9h r B b X (hR.below hX).1 hR.small);have HE:Hid (z9i l r=if z7g l≠0 then 40 else if z7g r≠0 then 41 else if z9c l≠z9c r∨l.rest≠r.rest then 42 else 0):=hd_ rfl;clear hL hR;go_enter func119,ntmps119;go_upto_region 1 with fail;generalize w.alloc (.cells #[.bool ex,.slice A l.parts.length a,.bool l.rest,.slice B r.parts.length b,.bool r.rest] 74)=W1 at hB hA ⊢;have d1:W1.cell? ⟨w.heap.size,1,none⟩=some (.slice A l.parts.length a):=hB.cell 1;have d2:W1.cell? ⟨w.heap.size,2,none⟩=some (.bool l.rest):=hB.cell 2;have HC:=hd_ (HKL.out W1 hA);have HB:=hd_ hB;have HA:=hd_ hA;clear hB hA HKL;go_wp2_with fail;refine HC.out.mono ?_;rintro e w2 ⟨n1,b1,rfl,hk1,hb⟩;have HB2:=hd_ (z0r HA.out hb);have hB2:=HB.out.below hb HB.out.lt;clear hb d1 d2 HC HB;obtain⟨pe,hpe⟩:∃ pe,z7g l=pe:=⟨_,rfl⟩;rw[hpe] at hk1 HE ⊢;clear hpe;by_cases h0:pe=0
 case neg =>
  have q:(pe != 0)=true:=by simpa using h0
  have HR:Hid (z9i l r=40):=hd_ (by rw[HE.out,if_pos h0])
  clear h0 hB2 HE hk1;go_wp2_with fail;go_ret;exact⟨z7l HR.out.symm,HB2.out⟩
 subst h0;obtain⟨rfl,rfl⟩:=hk1 rfl;have d3:w2.cell? ⟨w.heap.size,3,none⟩=some (.slice B r.parts.length b):=hB2.cell 3;have d4:w2.cell? ⟨w.heap.size,4,none⟩=some (.bool r.rest):=hB2.cell 4;have HC:=hd_ (HKR.out w2 HB2.out);clear hB2 HKR hk1;go_wp2_with fail;refine HC.out.mono ?_;rintro e w3 ⟨n2,b2,rfl,hk2,hb⟩;have HB3:=hd_ (z0r HB2.out hb);clear hb d3 d4 HC;obtain⟨pe,hpe⟩:∃ pe,z7g r=pe:=⟨_,rfl⟩;rw[hpe] at hk2 HE ⊢;clear hpe;by_cases h0:pe=0
 case neg =>
  have q:(pe != 0)=true:=by simpa using h0
  have HR:Hid (z9i l r=41):=hd_ (by rw[HE.out,if_neg (by decide),if_pos h0])
  clear h0 HE hk2;go_wp2_with fail;go_ret;exact⟨z7l HR.out.symm,HB3.out⟩
 subst h0;obtain⟨rfl,rfl⟩:=hk2 rfl;rw[if_neg (by decide),if_neg (by decide)] at HE
 clear hk2;by_cases h1:z9c l=z9c r
 ·have q1:((z9c l:Int) != (z9c r:Int))=false:=by rw[h1];simp
  rcases Bool.eq_false_or_eq_true l.rest with h2 | h2 <;> rcases Bool.eq_false_or_eq_true r.rest with h3 | h3 <;> (
   have HR:Hid (z9i l r=0∧l.rest=r.rest∨z9i l r=42∧l.rest≠r.rest):=hd_ (by
    by_cases h:l.rest=r.rest
    ·exact .inl ⟨by rw[HE.out,if_neg (by rintro (h4 | h4);exact h4 h1;exact h4 h)],h⟩
    ·exact .inr ⟨by rw[HE.out,if_pos (.inr h)],h⟩)
   rw[h2,h3] at HR ⊢;clear h1 h2 h3 HE;go_wp2_with fail;go_ret;rcases HR.out with⟨h4,h5⟩ | ⟨h4,h5⟩
   ·first
     | exact⟨z7l h4.symm,HB3.out⟩
     | cases h5
   ·first
     | exact⟨z7l h4.symm,HB3.out⟩
     | exact absurd rfl h5)
 ·have q1:((z9c l:Int) != (z9c r:Int))=true:=by simp;omega
  have HR:Hid (z9i l r=42):=hd_ (by rw[HE.out,if_pos (.inl h1)])
  clear h1 HE;go_wp2_with fail;go_ret;exact⟨z7l HR.out.symm,HB3.out⟩
theorem z9r (w:World)(n:Nat):zB w (w.drewN n):=⟨rfl,rfl,rfl,Nat.le_refl _,fun _ _=>rfl⟩
structure z9s (S:List Nat)(w w':World):Prop where
 os:w'.os=w.os
 tape:w'.tape=w.tape
 output:w'.output=w.output
 size:w.heap.size≤w'.heap.size
 block:∀ k,k<w.heap.size→k∉S→w'.heap[k]? = w.heap[k]?
theorem z9s.below {S:List Nat}{w w':World}(h:zB w w'):z9s S w w':=⟨h.os,h.tape,h.output,h.size,fun k hk _=>h.block k hk⟩
theorem z9s.grown {S:List Nat}{w w':World}{g:Nat}(h:w.grownBy w' (some g))(hg:g∈S):z9s S w w':=⟨h.os,h.tape,h.output,h.size,fun k hk hs=>h.block k hk (by intro e;injection e with e;subst e;exact hs hg)⟩
theorem z9s.trans {S:List Nat}{w w1 w2:World}(h:z9s S w w1)(h2:z9s S w1 w2):z9s S w w2:=
 ⟨h2.os.trans h.os,h2.tape.trans h.tape,h2.output.trans h.output,Nat.le_trans h.size h2.size,fun k hk hs=>(h2.block k (Nat.lt_of_lt_of_le hk h.size) hs).trans (h.block k hk hs)⟩
theorem z9s.to_below {S:List Nat}{w w':World}{B:Nat}(h:z9s S w w')(hS:∀ s∈S,B≤s)(hB:B≤w.heap.size):Below B w w':=
 ⟨h.os,h.tape,h.output,h.size,fun k hk=>h.block k (Nat.lt_of_lt_of_le hk hB) (fun hs=>by have:=hS k hs;omega)⟩
theorem z9s.blk {S:List Nat}{w w':World}{g:Nat}{e:TypeId}{cs:List Value}(h:z9s S w w')(hB:Blk w g e cs)(hg:g∉S):Blk w' g e cs:=(h.block g (Blk.lt hB) hg).trans hB
theorem z9s.fmap {κ α:Type}[BEq κ]{kv:κ→Value}{enc:α→Value}{S:List Nat}{w w':World}{B:Nat}{F:κ→Option α}(h:z9s S w w')(hM:z2k kv enc w B F)(hg:B∉S):z2k kv enc w' B F:=hM.keep (h.block B hM.lt hg)
theorem Row.set_far {w:World}{size n g i:Nat}{v u:Value}{xs:List Value}(h:Row w size v n xs)(hne:v.ownBlock≠some g):Row (w.setCell ⟨g,i,none⟩ u) size v n xs:=by
 obtain⟨A,c,rfl,hc,hm,hl,h0,hx⟩:=h;refine⟨A,c,rfl,hc,hm,hl,h0,fun hn=>?_⟩;obtain⟨ad,rfl,hb,hcell⟩:=hx hn;refine⟨ad,rfl,by simpa [World.setCell] using hb,fun j u' hu=>?_⟩
 rw[← hcell j u' hu];refine World.cell?_of_block (Below.heap_setCell w _ _ _ ?_);rw[z00];intro e;exact hne (congrArg some e)
theorem Row.kept {S:List Nat}{w X:World}{size n c:Nat}{ad:Addr}{xs:List Value}(h:Row w size (.slice (some ad) n c) n xs)(hK:z9s S w X)(hb:ad.block∉S):Row X size (.slice (some ad) n c) n xs:=by
 obtain⟨A,c',e,hc,hm,hl,h0,hx⟩:=h;injection e with e1 e2 e3
 subst e3;refine⟨some ad,c,rfl,hc,hm,hl,(fun h=>by cases h),fun hn=>?_⟩
 obtain⟨ad',e4,hb',hcell⟩:=hx hn;rw[← e1] at e4;injection e4 with e4
 subst e4;refine⟨ad,rfl,Nat.lt_of_lt_of_le hb' hK.size,fun j u' hu=>?_⟩;rw[← hcell j u' hu];refine World.cell?_of_block ?_;rw[z00];exact hK.block _ hb' hb
theorem z9t (w:World)(g i:Nat)(u:Value):w.grownBy (w.setCell ⟨g,i,none⟩ u) (some g):=
 ⟨rfl,rfl,rfl,by simp,fun k _ hk=>Below.heap_setCell w ⟨g,i,none⟩ u k (fun e=>hk (by rw[e]))⟩
def z9u (a b:ByteArray):Bool:=if a=b then true else if z7b b then (if z7b a then Lib.hasSuffix (z82 a).data.toList (z82 b).data.toList else z84 b a) else false
def z9v (a b:ByteArray):Option ByteArray:=if z9u a b then some a else if z9u b a then some b else none
theorem z9w {w:World}{base:Nat}{e:TypeId}{size n c g j:Nat}{xs:List Value}(h:w.ownsRow base e size (.slice (some ⟨g,0,none⟩) n c) n xs)(u:Value):(w.setCell ⟨g,j,none⟩ u).ownsRow base e size (.slice (some ⟨g,0,none⟩) n c) n (xs.set j u):=by
 obtain⟨h1,h2 | ⟨g',cap,cur,e1,h3,h4,h5,h6,h7,h8⟩⟩:=h
 ·cases h2.1
 ·injection e1 with e1 _ e3
  injection e1 with e1
  injection e1 with e1
  subst e1 e3;refine⟨by rw[List.length_set];exact h1,.inr ⟨g,c,cur.setIfInBounds j u,rfl,h3,?_,h5,h6,by simp [h7],?_⟩⟩
  ·simp [World.setCell,Array.getElem?_modify,h4]
  ·rw[Array.toList_setIfInBounds,List.take_set,h8]
theorem z9x {w:World}{base:Nat}{e:TypeId}{size n c g j:Nat}{xs:List Value}{u:Value}(h:w.ownsRow base e size (.slice (some ⟨g,0,none⟩) n c) n xs)(hj:xs[j]? = some u):w.cell? ⟨g,j,none⟩=some u∧w.frozen? ⟨g,j,none⟩=false∧base≤g:=by
 obtain⟨h1,h2 | ⟨g',cap,cur,e1,h3,h4,h5,h6,h7,h8⟩⟩:=h
 ·cases h2.1
 ·injection e1 with e1 _ e3
  injection e1 with e1
  injection e1 with e1
  subst e1 e3;refine⟨?_,by simp [World.frozen?,h4],h3⟩
  rw[cell_of_row w g j cur e (0,0) h4,← hj,← h8];have hlt:j<n * size:=by rw[← h1];exact (List.getElem?_eq_some_iff.1 hj).1
  rw[List.getElem?_take_of_lt hlt,Array.getElem?_toList]
def z9y (n:Nat)(r:Bool)(m:Nat)(s:Bool):Bool:=if r && s then true else if r then decide (n<m) else if s then decide (m<n) else decide (n=m)
def z9z:List ByteArray→List ByteArray→Option (List ByteArray)
 | xs,[]=>some xs
 | [],_ :: _=>none
 | x :: xs,y :: ys=>match z9v x y with
  | none=>none
  | some z=>(z9z xs ys).map (z :: ·)
def za0 (p q:Pat):Pat:=if p.parts.length<q.parts.length then q else p
def za1 (p q:Pat):Pat:=if p.parts.length<q.parts.length then p else q
def za2 (p q:Pat):Option Pat:=
 if z7g p=0∧z7g q=0∧z9y p.parts.length p.rest q.parts.length q.rest=true then (z9z (za0 p q).parts (za1 p q).parts).map (fun l=>⟨l,p.rest && q.rest⟩) else none
def za3 (xs ys:List ByteArray)(k:Nat)(done:List ByteArray):Prop:=done.length=k∧z9z xs ys=(z9z (xs.drop k) (ys.drop k)).map (done++·)
theorem za4 (xs ys:List ByteArray):za3 xs ys 0 []:=⟨rfl,by simp⟩
theorem za5 {xs ys:List ByteArray}{k:Nat}{done:List ByteArray}(h:za3 xs ys k done)(hx:k<xs.length)(hy:k<ys.length)(e:z9v xs[k] ys[k]=none):z9z xs ys=none:=by
 rw[h.2,List.drop_eq_getElem_cons hx,List.drop_eq_getElem_cons hy];unfold z9z;rw[e];rfl
theorem za6 {xs ys:List ByteArray}{k:Nat}{done:List ByteArray}{z:ByteArray}(h:za3 xs ys k done)(hx:k<xs.length)(hy:k<ys.length)(e:z9v xs[k] ys[k]=some z):za3 xs ys (k+1) (done++[z]):=by
 refine⟨by rw[List.length_append,h.1];rfl,?_⟩
 rw[h.2,List.drop_eq_getElem_cons hx,List.drop_eq_getElem_cons hy];conv=>lhs;unfold z9z
 rw[e];simp only[Option.map_map]
 congr 1
 funext l
 simp
theorem za7 {p:Pat}(h:z7g p=0):p.parts.length≤12:=by
 unfold z7g at h;split at h
 ·cases h
 ·split at h
  ·cases h
  ·split at h
   ·cases h
   ·omega
theorem zb3 {xs ys l:List ByteArray}(h:z9z xs ys=some l):∀ z∈l,z∈xs∨z∈ys:=by
 induction xs generalizing ys l with
 | nil =>
  cases ys with
  | nil=>unfold z9z at h;rw[← Option.some.inj h];intro z hz;cases hz
  | cons y ys=>cases h
 | cons x xs ih =>
  cases ys with
  | nil=>unfold z9z at h;rw[← Option.some.inj h];exact fun z hz=>.inl hz
  | cons y ys =>
   unfold z9z at h;cases hm:z9v x y with
   | none=>rw[hm] at h;cases h
   | some z =>
    rw[hm] at h;simp only[Option.map_eq_some_iff] at h
    obtain⟨l',h1,h2⟩:=h;subst h2;intro u hu;rcases List.mem_cons.1 hu with rfl | hu
    ·unfold z9v at hm;split at hm
     ·exact .inl (by rw[← Option.some.inj hm];exact List.mem_cons_self ..)
     ·split at hm
      ·exact .inr (by rw[← Option.some.inj hm];exact List.mem_cons_self ..)
      ·cases hm
    ·rcases ih h1 u hu with h3 | h3
     ·exact .inl (List.mem_cons_of_mem _ h3)
     ·exact .inr (List.mem_cons_of_mem _ h3)
def zb4 (w:World)(p q:Pat)(e:Ending)(w':World):Prop:=
 zB w w'∧(za2 p q=none∧e=.returned (.tuple #[.agg #[.slice none 0 0,.bool false],.bool false])∨∃ m A c,za2 p q=some m∧e=.returned (.tuple #[.agg #[.slice A m.parts.length c,.bool m.rest],.bool true])∧(∀ x,(Value.slice A m.parts.length c).ownBlock=some x→w.heap.size≤x)∧z9j w' (.slice A m.parts.length c) m)
def zb5 (w:World)(g:Nat)(v:Value)(b:Bool):Prop:=Blk w g 68 [v,.bool b]
theorem zb5.c0 {w:World}{g:Nat}{v:Value}{b:Bool}(h:zb5 w g v b):w.cell? ⟨g,0,none⟩=some v:=Blk.cell h 0
theorem zb5.c1 {w:World}{g:Nat}{v:Value}{b:Bool}(h:zb5 w g v b):w.cell? ⟨g,1,none⟩=some (.bool b):=Blk.cell h 1
theorem zb5.f0 {w:World}{g:Nat}{v:Value}{b:Bool}(h:zb5 w g v b):w.frozen? ⟨g,0,none⟩=false:=Blk.frozen h 0
theorem zb5.f1 {w:World}{g:Nat}{v:Value}{b:Bool}(h:zb5 w g v b):w.frozen? ⟨g,1,none⟩=false:=Blk.frozen h 1
theorem zb5.all {w:World}{g:Nat}{v:Value}{b:Bool}(h:zb5 w g v b):w.frozen? ⟨g,0,none⟩=false∧w.frozen? ⟨g,1,none⟩=false∧w.cell? ⟨g,0,none⟩=some v∧w.cell? ⟨g,1,none⟩=some (.bool b):=⟨h.f0,h.f1,h.c0,h.c1⟩
theorem zb6 {B:Nat}{w w':World}(h:Below B w w'){g:Nat}(hg:B≤g)(u0 u1:Value):Below B w ((w'.setCell ⟨g,0,none⟩ u0).setCell ⟨g,1,none⟩ u1):=(h.setCell (p:=⟨g,0,none⟩) hg u0).setCell (p:=⟨g,1,none⟩) hg u1
theorem zb5.low {w w':World}{g:Nat}{v:Value}{b:Bool}(h:zb5 w g v b)(hb:zB w w'):zb5 w' g v b:=Blk.below h hb (Blk.lt h)
theorem zb5.put {w:World}{g:Nat}{v:Value}{b:Bool}(h:zb5 w g v b)(v':Value)(b':Bool):zb5 ((w.setCell ⟨g,0,none⟩ v').setCell ⟨g,1,none⟩ (.bool b')) g v' b':=Blk.set_ (Blk.set_ h 0 v') 1 (.bool b')
theorem zb5.far {w:World}{g g':Nat}{v:Value}{b:Bool}(h:zb5 w g v b)(hg:g'≠g)(u0 u1:Value):zb5 ((w.setCell ⟨g',0,none⟩ u0).setCell ⟨g',1,none⟩ u1) g v b:=Blk.far (Blk.far h hg u0) hg u1
structure MtSt (w wx:World)(p q x y:Pat)(vx vy:Value):Prop where
 low:zB w wx
 b2:zb5 wx w.heap.size vx x.rest
 b3:zb5 wx (w.heap.size+1) vy y.rest
 b4:zb5 wx (w.heap.size+1+1) (.slice none 0 0) false
 px:z9j wx vx x
 py:z9j wx vy y
 le:y.parts.length≤x.parts.length
 len:x.parts.length≤12
 is:za2 p q=(z9z x.parts y.parts).map (fun l=>⟨l,x.rest && y.rest⟩)
theorem MtSt.next {w wx wy:World}{p q x y:Pat}{vx vy:Value}(h:MtSt w wx p q x y vx vy)(hb:zB wx wy):MtSt w wy p q x y vx vy:=
 ⟨h.low.trans (hb.mono h.low.size),h.b2.low hb,h.b3.low hb,h.b4.low hb,h.px.below hb,h.py.below hb,h.le,h.len,h.is⟩
theorem zc8 {j:Nat}{x:ByteArray}(hj:0<j):z7e j x=zbm x:=by
 unfold z7e;rw[zbt,decide_eq_false (by omega:¬ j=0)]
 simp
theorem zc9 {p:Pat}(h:0<p.parts.length)(hc:z12 p.parts[0]=false):z7g p=30:=by
 by_cases h1:p.parts.length=1∧p.rest=false
 ·exact z8l h1.1 h1.2
 ·exact z8m (z7h h (by rw[zbu,hc]))
theorem zca {p:Pat}{j:Nat}(hj:j+1<p.parts.length)(hc:zbm p.parts[j+1]=false):z7g p=30:=z8m (z7h hj (by rw[zc8 (by omega),hc]))
theorem zcb {p:Pat}(h1:¬(p.parts.length=0∨(p.parts.length=1∧p.rest=false)))(h0:∀ h:0<p.parts.length,z12 p.parts[0]=true)(h:∀ j (hj:j+1<p.parts.length),zbm p.parts[j+1]=true):z7g p=if 12<p.parts.length then 31 else 0:=by
 refine z8n h1 (z7i fun j hj=>?_);cases j with
 | zero=>rw[zbu];exact h0 hj
 | succ j=>rw[zc8 (by omega)];exact h j hj
theorem zcc (p:Pat)(A:Option Addr)(c:Nat)(w:World)(hS:Strs w (.slice A p.parts.length c) p.parts)(hz:∀ x∈p.parts,x.size≤maxLen):
  Calls prog 60 #[.agg #[.slice A p.parts.length c,.bool p.rest]] w fun e w'=>e=.returned (.int .i64 (z7g p))∧zB w w':=by
 obtain⟨A',c',e',hcc,hmm,-⟩:=id hS;injection e' with e1 e2 e3
 subst e1 e3;unfold maxLen at hmm;have HS:=hd_ hS;have HZ:=hd_ hz;have HCO:=hd_ (fun x (hx:x.size≤maxLen) X=>z8z x X hx);have HPA:=hd_ (fun x (hx:x.size≤maxLen) X=>zc5 x X hx);obtain⟨parts,rest⟩:=p;dsimp only at hcc hmm HS HZ ⊢
 have HE0:=hd_ (@patE_0 ⟨parts,rest⟩);have HE1:=hd_ (@z8l ⟨parts,rest⟩);have HEC:=hd_ (@zc9 ⟨parts,rest⟩);have HEP:=hd_ (fun j hj hc=>@zca ⟨parts,rest⟩ j hj hc);have HEE:=hd_ (@zcb ⟨parts,rest⟩);have hB:=z0l w [.slice A parts.length c,.bool rest] 68;have hA:zB w (w.alloc (.cells #[.slice A parts.length c,.bool rest] 68)):=(Below.refl _ _).alloc (Nat.le_refl _) _;clear hS hz e2;go_enter func60,ntmps60;go_upto_region 1 with fail;generalize w.alloc (.cells #[.slice A parts.length c,.bool rest] 68)=W1 at hB hA ⊢;have d0:W1.cell? ⟨w.heap.size,0,none⟩=some (.slice A parts.length c):=hB.cell 0;have d1:W1.cell? ⟨w.heap.size,1,none⟩=some (.bool rest):=hB.cell 1;have HB:=hd_ hB;have HA:=hd_ hA;clear hB hA;by_cases h0:parts.length=0
 ·have q0:((parts.length:Int) == 0)=true:=by rw[beq_iff_eq];omega
  have HR:=hd_ (HE0.out h0);clear h0;go_wp2_with fail;go_ret;exact⟨z7l HR.out.symm,HA.out⟩
 ·have q0:((parts.length:Int) == 0)=false:=by rw[beq_eq_false_iff_ne];omega
  by_cases h1:parts.length=1∧rest=false
  ·have q1:((parts.length:Int) == 1)=true:=by rw[beq_iff_eq];omega
   have HR:=hd_ (HE1.out h1.1 h1.2);obtain⟨h1,rfl⟩:=h1;clear h0 h1;go_wp2_with fail;go_ret;exact⟨z7l HR.out.symm,HA.out⟩
  ·have hpos:0<parts.length:=by omega
   have HN1:=hd_ (show ¬(parts.length=0∨(parts.length=1∧rest=false)) from fun h=>h.elim h0 h1);obtain⟨ad,rfl,hab,x0⟩:=Strs.at_ (HS.out.below HA.out) hpos;have hadd:(ad.add 0)=ad:=by unfold Addr.add;cases ad;simp
   have HX0:=hd_ (HCO.out _ (HZ.out _ (List.getElem_mem hpos)));have HNC:=hd_ (fun h=>HEC.out hpos h);obtain⟨fst,hfst⟩:∃ x,parts[0]=x:=⟨_,rfl⟩;rw[hfst] at x0;have HF:Hid (∀ X,Calls prog 109 #[.string fst] X fun e w'=>e=.returned (.bool (z12 fst))∧X=w'):=hd_ (fun X=>by rw[← hfst];exact HX0.out X)
   have HNC2:Hid (z12 fst=false→z7g ⟨parts,rest⟩=30):=hd_ (fun h=>HNC.out (by dsimp only;rw[hfst];exact h))
   have HYC2:Hid (z12 fst=true→∀ h:0<parts.length,z12 parts[0]=true):=hd_ (fun h _=>by rw[hfst];exact h)
   clear hfst HX0 HNC;clear h0 hab;have hone:((parts.length:Int) == 1)=true→rest=true:=fun h=>by
    cases rest with
    | true=>rfl
    | false=>exact absurd ⟨by rw[beq_iff_eq] at h;omega,rfl⟩ h1
   clear h1;rw[hadd] at x0;clear hadd;have hp0:(0:Int)<(parts.length:Int):=by omega
   go_cut [27] (fun v wx=>v=.bool (!z12 fst)∧wx=W1)
   case first =>
    have HON:=hd_ hone;clear hone;cases q1:((parts.length:Int) == 1) with
    | true =>
     obtain rfl:=HON.out q1
     go_wp2_with fail;refine (HF.out _).mono ?_;rintro e w' ⟨rfl,rfl⟩;go_wp2_with fail;go_meet
     exact⟨rfl,rfl⟩
    | false =>
     go_wp2_with fail;refine (HF.out _).mono ?_;rintro e w' ⟨rfl,rfl⟩;go_wp2_with fail;go_meet
     exact⟨rfl,rfl⟩
   case rest =>
    obtain⟨rfl,rfl⟩:=hcut;have HNO:=hd_ hone;clear hone x0 hp0 q0;cases hc:z12 fst with
    | false =>
     have HR:=hd_ (HNC2.out hc);clear hc;go_wp2_with fail;go_ret;exact⟨z7l HR.out.symm,HA.out⟩
    | true =>
     have HYC:=hd_ (HYC2.out hc);obtain⟨A2,c2,hrun,hrow⟩:=z0b (P:=prog) (t:=29) (lo:=1) (x:=1) (kx:=.i64) underlying29 Tryz.sizeOf9 (HS.out.below HA.out) (by omega) rfl
     rw[Nat.one_mul,← List.map_drop] at hrow;obtain⟨l2,hl2⟩:∃ l2,parts.drop 1=l2:=⟨_,rfl⟩;have hlen:parts.length - 1=l2.length:=by rw[← hl2,List.length_drop]
     rw[hl2] at hrow;rw[hlen] at hrow hrun;have HS2:Hid (Strs wc (.slice A2 l2.length c2) l2):=hd_ hrow;have HGT:Hid (∀ j (hj:j<l2.length),∃ h:j+1<parts.length,parts[j+1]=l2[j]):=hd_ (fun j hj=>⟨by omega,by subst hl2;rw[List.getElem_drop];congr 1;omega⟩)
     have HLN:=hd_ hlen;have hl2b:l2.length≤9223372036854775806:=by omega
     clear hrow hl2 hlen hc;go_wp2_with fail;clear hrun;go_loop [32] (fun i=>∃ k:Nat,k≤l2.length∧i=.int .i64 k∧Hid (∀ j (hj:j<l2.length),j<k→zbm l2[j]=true)) (fun i=>l2.length - (intOf i).toNat)
     case atStart=>exact⟨0,Nat.zero_le _,rfl,fun j _ h=>by omega⟩
     case round =>
      obtain⟨k,hk,rfl,HI⟩:=hrel;by_cases hlt:k<l2.length
      ·obtain⟨ad2,rfl,hab2,x1⟩:=Strs.at_ HS2.out hlt;have HPX:=hd_ (fun X=>HPA.out l2[k] (by obtain⟨h,e⟩:=HGT.out k hlt;rw[← e];exact HZ.out _ (List.getElem_mem h)) X)
       have HBD:Hid (zbm l2[k]=false→z7g ⟨parts,rest⟩=30):=hd_ (fun h=>by obtain⟨h1,e⟩:=HGT.out k hlt;exact HEP.out k h1 (by rw[e];exact h))
       have HGD:Hid (zbm l2[k]=true→∀ j (hj:j<l2.length),j<k+1→zbm l2[j]=true):=hd_ (fun h j hj a=>by
        by_cases e:j=k
        ·subst e;exact h
        ·exact HI.out j hj (by omega))
       generalize hx:l2[k]=x at x1 HPX HBD HGD;clear hx HI;cases hb:zbm x with
       | false =>
        have HR:=hd_ (HBD.out hb);rw[hb] at HPX;clear hb;go_wp2_with fail;refine (HPX.out _).mono ?_;rintro e w' ⟨rfl,rfl⟩;go_wp2_with fail;go_ret;exact⟨z7l HR.out.symm,HA.out⟩
       | true =>
        have HJ:=hd_ (HGD.out hb);rw[hb] at HPX;clear hb;go_wp2_with fail;refine (HPX.out _).mono ?_;rintro e w' ⟨rfl,rfl⟩;go_wp2_with fail;go_round
        case rel=>exact⟨k+1,by omega,by go_num,HJ.out⟩
        case measure=>simp [intOf];omega
      ·have HR:=hd_ (HEE.out HN1.out (fun h=>HYC.out h) (fun j hj=>by
        obtain⟨h,e⟩:=HGT.out j (by have:=HLN.out;omega)
        rw[e];exact HI.out j _ (by have:=HLN.out;omega)))
       clear HI;by_cases h12:12<parts.length
       ·have q12:decide ((12:Int)<(parts.length:Int))=true:=by simp;omega
        have HR2:Hid (z7g ⟨parts,rest⟩=31):=hd_ (by rw[HR.out];exact if_pos h12)
        clear h12;go_wp2_with fail;go_ret;exact⟨z7l HR2.out.symm,HA.out⟩
       ·have q12:decide ((12:Int)<(parts.length:Int))=false:=by simp;omega
        have HR2:Hid (z7g ⟨parts,rest⟩=0):=hd_ (by rw[HR.out];exact if_neg h12)
        clear h12;go_wp2_with fail;go_ret;exact⟨z7l HR2.out.symm,HA.out⟩
