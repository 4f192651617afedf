/- A part of the proof. -/
import Derived.Test.YtegeboijhifmcaaGreatDoorMgw5
import Derived.Test.YtegeboijhifmcaaGreatDoorMgw7
import Derived.Test.YtegeboijhifmcaaGreatDoorMgw8
set_option linter.unusedVariables false
set_option linter.unusedSimpArgs false
set_option maxHeartbeats 2000000
set_option maxRecDepth 100000
namespace Go.Proofs.YtegeboijhifmcaaGreatDoor
open Go.RowKit
open Go.Sort (grow)
def z4s (x:Syn):List Hav:=if x.dst=z2l then [] else [⟨x.path,x.num,x.dst⟩]
def z4t (x:Syn):List Hav:=if z3o x.kind then [] else z4s x
def z4u (p:ByteArray):List Syn→List Hav
 | []=>[]
 | x :: r=>if z2u x.path p<0 then z4t x++z4u p r else []
def z4v (p:ByteArray):List Syn→List Syn
 | []=>[]
 | x :: r=>if z2u x.path p<0 then z4v p r else x :: r
def z4w (h:Hav):List Syn→List Hav
 | []=>[h]
 | x :: r=>if x.path=h.path then (if z3o x.kind then [h] else z4s x) else [h]
def z4x (h:Hav):List Syn→List Syn
 | []=>[]
 | x :: r=>if x.path=h.path then r else x :: r
def z4y:List Hav→List Syn→List Hav
 | [],ps=>ps.flatMap z4t
 | h :: hs,ps=>z4u h.path ps++z4w h (z4v h.path ps)++z4y hs (z4x h (z4v h.path ps))
def z4z (w:World)(v:Value)(l:List Syn):Prop:=Row w 5 v l.length (l.flatMap Syn.cells)
def z50 (w:World)(a:Addr)(x:Syn):Prop:=w.cell? a=some (.int .i64 x.kind)∧w.cell? ⟨a.block,a.off+1,none⟩=some (.string x.path)∧w.cell? ⟨a.block,a.off+2,none⟩=some (.int .i64 x.num)∧w.cell? ⟨a.block,a.off+3,none⟩=some (.string x.frm)∧w.cell? ⟨a.block,a.off+4,none⟩=some (.string x.dst)
theorem z4z.at_ {w:World}{A:Option Addr}{c:Nat}{l:List Syn}(h:z4z w (.slice A l.length c) l){k:Nat}(hk:k<l.length):
  ∃ ad,A=some ad∧ad.block<w.heap.size∧z50 w (ad.add (k * 5)) l[k]:=by
 obtain⟨ad,e,hb,hc⟩:=z49 (f:=Syn.cells) (n:=5) (fun _=>rfl) h hk;exact⟨ad,e,hb,hc 0 _ rfl,hc 1 _ rfl,hc 2 _ rfl,hc 3 _ rfl,hc 4 _ rfl⟩
theorem z4z.head {w:World}{A:Option Addr}{c n:Nat}{x:Syn}{r:List Syn}(h:z4z w (.slice A n c) (x :: r)):
  n=r.length+1∧∃ ad,A=some ad∧ad.block<w.heap.size∧z50 w ad x:=by
 have hn:n=(x :: r).length:=by obtain⟨A',c',e,-⟩:=id h;injection e
 subst hn;obtain⟨ad,e,hb,hc⟩:=z4z.at_ (k:=0) h (by simp)
 refine⟨rfl,ad,e,hb,?_⟩;have:ad.add (0 * 5)=ad:=by unfold Addr.add;simp
 rw[this] at hc;exact hc
theorem z4z.below {w w':World}{v:Value}{l:List Syn}(h:z4z w v l)(hb:Below w.heap.size w w'):z4z w' v l:=Row.below h hb
theorem z4b.below {w w':World}{v:Value}{l:List Hav}(h:z4b w v l)(hb:Below w.heap.size w w'):z4b w' v l:=Row.below h hb
theorem z52 (w:World):(sizeOf 48).run Tryz.prog w=.ok 5 w:=by kernel_rfl
theorem z4z.tail {w:World}{A:Option Addr}{c n:Nat}{x:Syn}{r:List Syn}(h:z4z w (.slice A n c) (x :: r)):
  ∃ A' c',(Instr.sliceAt 35 (.slice A n c) (some (.int .i64 1)) none none).run Tryz.prog w=.ok (.slice A' r.length c') w∧z4z w (.slice A' r.length c') r:=by
 have hn:n=(x :: r).length:=by obtain⟨A',c',e,-⟩:=id h;injection e
 subst hn;obtain⟨A',c',h1,h2⟩:=z0b (P:=Tryz.prog) (w:=w) (x:=1) (kx:=.i64) (lo:=1) Tryz.underlying35 z52 h (by simp) rfl
 exact⟨A',c',h1,h2⟩
theorem z54:z0e Tryz.prog 28 44 3 40:=z0f Tryz.underlying28 (z:=.agg #[.string ⟨#[]⟩,.int .i64 0,.string ⟨#[]⟩]) (by kernel_rfl) rfl (by decide)
structure Aft (w0 w:World)(b:Nat)(l:List Hav)(v:Value):Prop where
 bel:Below b w0 w
 box:Blk w b 28 [v]
 row:w.ownsRow (b+1) 44 3 v l.length (l.flatMap Hav.cells)
def Kp (b:Nat)(w w':World)(v v':Value):Prop:=w.heap.size≤w'.heap.size∧∀ k,k<w.heap.size→k≠b→v.ownBlock≠some k→w'.heap[k]? = w.heap[k]?∧v'.ownBlock≠some k
theorem Kp.refl (b:Nat)(w:World)(v:Value):Kp b w w v v:=⟨Nat.le_refl _,fun k _ _ h=>⟨rfl,h⟩⟩
theorem Kp.below {b:Nat}{w w':World}{v:Value}(h:Below w.heap.size w w'):Kp b w w' v v:=⟨h.size,fun k hk _ h2=>⟨h.block k hk,h2⟩⟩
theorem Kp.trans {b:Nat}{w w' w2:World}{v v' v2:Value}(h:Kp b w w' v v')(h2:Kp b w' w2 v' v2):Kp b w w2 v v2:=
 ⟨Nat.le_trans h.1 h2.1,fun k hk hb hv=>by
  obtain⟨a1,a2⟩:=h.2 k hk hb hv;obtain⟨c1,c2⟩:=h2.2 k (Nat.lt_of_lt_of_le hk h.1) hb a2;exact⟨c1.trans a1,c2⟩⟩
theorem Kp.blk {b g:Nat}{w w':World}{v v':Value}{e:TypeId}{cs:List Value}(h:Kp b w w' v v')(hB:Blk w g e cs)(hg:g≠b)(hv:v.ownBlock≠some g):Blk w' g e cs∧v'.ownBlock≠some g:=by
 obtain⟨a1,a2⟩:=h.2 g hB.lt hg hv;exact⟨a1.trans hB,a2⟩
theorem Aft.under {w0 w X:World}{b:Nat}{l:List Hav}{v:Value}(h:Aft w0 w b l v)(hX:Below w.heap.size w X):Aft w0 X b l v:=
 ⟨h.bel.trans (hX.mono (Nat.le_of_lt h.box.lt)),h.box.below hX h.box.lt,z0n h.row hX⟩
theorem z55 (x:Hav):∀ v∈x.cells,v.oneCell'=true:=by
 intro v hv;simp only[Hav.cells,List.mem_cons,List.not_mem_nil,or_false] at hv
 rcases hv with rfl | rfl | rfl <;> rfl
theorem z56 {α β:Type}(f:α→List β)(l:List α)(x:α):(l++[x]).flatMap f=l.flatMap f++f x:=by simp
theorem Aft.push {w0 w w2:World}{b:Nat}{l:List Hav}{v:Value}{x:Hav}{A':Option Addr}{c':Nat}(h:Aft w0 w b l v)
  (hown:w2.ownsRow (b+1) 44 3 (.slice A' (l.length+1) c') (l.length+1) (l.flatMap Hav.cells++x.cells)) (hgr:w.grownBy w2 v.ownBlock)
  (hob:(Value.slice A' (l.length+1) c').ownBlock=v.ownBlock∨(Value.slice A' (l.length+1) c').ownBlock=some w.heap.size):
  Aft w0 (w2.setCell ⟨b,0,none⟩ (.slice A' (l.length+1) c')) b (l++[x]) (.slice A' (l.length+1) c')∧Kp b w (w2.setCell ⟨b,0,none⟩ (.slice A' (l.length+1) c')) v (.slice A' (l.length+1) c'):=by
 have hl:=h.box.lt;have hb1:∀ k,v.ownBlock=some k→b<k:=fun k e=>by have:=(h.row.lt k e).1;omega
 have hbx:some b≠v.ownBlock:=fun e=>by have:=hb1 b e.symm;omega
 have hbel:Below b w0 w2:=h.bel.grown hgr (Nat.le_of_lt hl) (fun k e=>by have:=hb1 k e;omega)
 have hne:(Value.slice A' (l.length+1) c').ownBlock≠some b:=by
  rcases hob with e | e
  ·rw[e];exact fun e=>hbx e.symm
  ·rw[e];intro e2;injection e2 with e2;omega
 refine⟨⟨hbel.setCell (p:=⟨b,0,none⟩) (Nat.le_refl _) _,(Blk.grown h.box hgr hbx).set_ 0 _,?_⟩,?_,fun k hk hkb hv=>⟨?_,?_⟩⟩
 ·rw[List.length_append,List.length_singleton,z56];exact z4r hown (p:=⟨b,0,none⟩) hne _
 ·simpa using hgr.size
 ·rw[Below.heap_setCell w2 _ _ k hkb];exact hgr.block k hk (fun e=>hv e.symm)
 ·rcases hob with e | e
  ·rw[e];exact hv
  ·rw[e];intro e2;injection e2 with e2;omega
theorem Aft.alloc {w0 w:World}{b:Nat}{l:List Hav}{v:Value}(h:Aft w0 w b l v)(o:Obj):Aft w0 (w.alloc o) b l v:=h.under ((Below.refl _ _).alloc (Nat.le_refl _) _)
theorem z57 {x:Syn}(h:x.dst=z2l):z4s x=[]:=if_pos h
theorem addS_no {x:Syn}(h:¬ x.dst=z2l):z4s x=[⟨x.path,x.num,x.dst⟩]:=if_neg h
theorem z58 (x:Syn)(w0 w:World)(b:Nat)(l:List Hav)(v:Value)(hA:Aft w0 w b l v)(hl:(l.length+1) * 40≤140737488355328):
  Calls Tryz.prog 63 #[.agg #[.int .i64 x.kind,.string x.path,.int .i64 x.num,.string x.frm,.string x.dst],.pointer (some ⟨b,0,none⟩)] w fun e w'=>e=.returned (.tuple #[])∧∃ v',Aft w0 w' b (l++z4s x) v'∧Kp b w w' v v':=by
 have hA1:=hA.alloc (.cells #[.int .i64 x.kind,.string x.path,.int .i64 x.num,.string x.frm,.string x.dst] 48);have hK1:Kp b w (w.alloc (.cells #[.int .i64 x.kind,.string x.path,.int .i64 x.num,.string x.frm,.string x.dst] 48)) v v:=Kp.below ((Below.refl _ _).alloc (Nat.le_refl _) _);have hS:=z0l w [.int .i64 x.kind,.string x.path,.int .i64 x.num,.string x.frm,.string x.dst] 48;by_cases h1:x.dst=z2l
 ·have HK:=hd_ (z57 h1);obtain⟨s1,s2⟩:=z3v h1;have HA:=hd_ hA1;have HKp:=hd_ hK1;clear h1 hA hA1 hK1 hS;go_enter Tryz.func63,Tryz.ntmps63;go_wp2_with fail;go_end0
  exact⟨rfl,_,by rw[HK.out,List.append_nil];exact HA.out,HKp.out⟩
 ·have HK:=hd_ (addS_no h1);obtain⟨s1,s2⟩:=z3w h1;obtain⟨s3,s4,s5,s6,s7⟩:=z3r (x:=x) hS;have hbx:(w.alloc (.cells #[.int .i64 x.kind,.string x.path,.int .i64 x.num,.string x.frm,.string x.dst] 48)).cell? ⟨b,0,none⟩=some v:=hA1.box.cell 0;have hA2:=hA1.alloc (.cells #[.string x.path,.int .i64 x.num,.string x.dst] 44);have hK2:Kp b w ((w.alloc (.cells #[.int .i64 x.kind,.string x.path,.int .i64 x.num,.string x.frm,.string x.dst] 48)).alloc (.cells #[.string x.path,.int .i64 x.num,.string x.dst] 44)) v v:=Kp.below (((Below.refl _ _).alloc (Nat.le_refl _) _).alloc (by simp) _)
  have hrow:=z0i (w.alloc (.cells #[.int .i64 x.kind,.string x.path,.int .i64 x.num,.string x.frm,.string x.dst] 48)) [.string x.path,.int .i64 x.num,.string x.dst] 44 3 1 rfl (by unfold maxLen;omega) (w.heap.size+1) (by simp)
  obtain⟨A0,c0,rfl⟩:=z0o hA.row;have hsz:b+1≤((w.alloc (.cells #[.int .i64 x.kind,.string x.path,.int .i64 x.num,.string x.frm,.string x.dst] 48)).alloc (.cells #[.string x.path,.int .i64 x.num,.string x.dst] 44)).heap.size:=by have:=hA.box.lt;simp;omega
  clear h1 hA hA1 hK1 hS;go_enter Tryz.func63,Tryz.ntmps63;go_wp2_with (at_builtin;refine z0j rfl rfl z54 hA2.row rfl hrow rfl (z55 ⟨x.path,x.num,x.dst⟩) hl (by unfold maxLen;omega) hsz ?_;intro A' c' w2 hown hgr hob;obtain⟨hA3,hK3⟩:=hA2.push (x:=⟨x.path,x.num,x.dst⟩) hown hgr hob;have hbw:=Blk.grown hA2.box hgr (fun e=>by have:=(hA2.row.lt b e.symm).1;omega);have hfz:=hbw.frozen 0;have hcl:w2.cell? ⟨b,0,none⟩=some (.slice A0 l.length c0):=hbw.cell 0)
  go_end0
  exact⟨rfl,_,by rw[HK.out];exact hA3,hK2.trans hK3⟩
section
variable {α : Type} {k : α → ByteArray}
def z5x (k:α→ByteArray)(l:List α):Prop:=l.Pairwise (fun a b=>z2u (k a) (k b)<0)
def z5y (k:α→ByteArray)(l:List α)(p:ByteArray):Option α:=l.find? (fun a=>decide (k a=p))
theorem z5z {a b:ByteArray}(h:z2u a b<0):a≠b:=fun e=>by rw[e,z5e] at h;omega
theorem z60 {a b:ByteArray}(h:z2u a b<0):¬ z2u b a<0:=by rw[z5q];omega
theorem z5x.tail {a:α}{l:List α}(h:z5x k (a :: l)):z5x k l:=(List.pairwise_cons.1 h).2
theorem z5x.head {a:α}{l:List α}(h:z5x k (a :: l)):∀ b∈l,z2u (k a) (k b)<0:=(List.pairwise_cons.1 h).1
theorem z61 {l:List α}{p:ByteArray}{a:α}(h:z5y k l p=some a):a∈l∧k a=p:=
 ⟨List.mem_of_find?_eq_some h,by simpa using List.find?_some h⟩
theorem z62 {l:List α}{p:ByteArray}:z5y k l p=none↔∀ a∈l,k a≠p:=by
 unfold z5y;rw[List.find?_eq_none];simp
theorem z63 (a:α)(l:List α)(p:ByteArray):z5y k (a :: l) p=if k a=p then some a else z5y k l p:=by
 unfold z5y;rw[List.find?_cons];by_cases h:k a=p
 ·rw[if_pos h,decide_eq_true h]
 ·rw[if_neg h,decide_eq_false h]
theorem z64 (l m:List α)(p:ByteArray):z5y k (l++m) p=(z5y k l p).or (z5y k m p):=by
 unfold z5y;exact List.find?_append ..
theorem z65 {l:List α}(h:z5x k l){a:α}(ha:a∈l):z5y k l (k a)=some a:=by
 induction l with
 | nil=>cases ha
 | cons b l ih =>
  rw[z63];by_cases e:k b=k a
  ·rw[if_pos e];rcases List.mem_cons.1 ha with rfl | ha
   ·rfl
   ·exact absurd e (z5z (h.head a ha))
  ·rw[if_neg e];rcases List.mem_cons.1 ha with rfl | ha
   ·exact absurd rfl e
   ·exact ih h.tail ha
theorem z66 {l m:List α}(hl:z5x k l)(hm:z5x k m)(h:∀ a,a∈l↔a∈m):l=m:=by
 induction l generalizing m with
 | nil =>
  cases m with
  | nil=>rfl
  | cons b m=>exact absurd ((h b).2 (List.mem_cons_self ..)) (by simp)
 | cons a l ih =>
  cases m with
  | nil=>exact absurd ((h a).1 (List.mem_cons_self ..)) (by simp)
  | cons b m =>
   have hab:a=b:=by
    rcases List.mem_cons.1 ((h a).1 (List.mem_cons_self ..)) with e | h1
    ·exact e
    ·rcases List.mem_cons.1 ((h b).2 (List.mem_cons_self ..)) with e | h2
     ·exact e.symm
     ·exact absurd (hm.head a h1) (z60 (hl.head b h2))
   subst hab;congr 1
   refine ih hl.tail hm.tail fun x=>⟨fun hx=>?_,fun hx=>?_⟩
   ·rcases List.mem_cons.1 ((h x).1 (List.mem_cons_of_mem _ hx)) with rfl | h1
    ·exact absurd rfl (z5z (hl.head _ hx))
    ·exact h1
   ·rcases List.mem_cons.1 ((h x).2 (List.mem_cons_of_mem _ hx)) with rfl | h1
    ·exact absurd rfl (z5z (hm.head _ hx))
    ·exact h1
theorem zpu {l m:List α}(hl:z5x k l)(hm:z5x k m)(h:∀ p,z5y k l p=z5y k m p):l=m:=
 z66 hl hm fun a=>⟨fun ha=>(z61 ((h (k a)).symm.trans (z65 hl ha))).1,fun ha=>(z61 ((h (k a)).trans (z65 hm ha))).1⟩
theorem z67 {l m:List α}(hl:z5x k l)(hm:z5x k m)(h:∀ a∈l,∀ b∈m,z2u (k a) (k b)<0):z5x k (l++m):=List.pairwise_append.2 ⟨hl,hm,h⟩
theorem z68 {β:Type}{kb:β→ByteArray}{f:α→β}{l:List α}(h:z5x k l)(hf:∀ a,kb (f a)=k a):z5x kb (l.map f):=by
 unfold z5x;rw[List.pairwise_map];exact h.imp fun {a b} hab=>by rw[hf,hf];exact hab
theorem z69 {β:Type}{kb:β→ByteArray}{f:α→β}(hf:∀ a,kb (f a)=k a)(l:List α)(p:ByteArray):z5y kb (l.map f) p=(z5y k l p).map f:=by
 induction l with
 | nil=>rfl
 | cons a l ih =>
  rw[List.map_cons,z63,z63,hf];split
  ·rfl
  ·exact ih
theorem z6a {l:List α}(h:z5x k l)(f:α→Bool):z5x k (l.filter f):=h.sublist List.filter_sublist
end
abbrev z6b:=z5x Hav.path
abbrev z6c:=z5x Syn.path
abbrev z6d:=z5y Hav.path
abbrev z6e:=z5y Syn.path
def z6f (w:Hav):Syn:=⟨0,w.path,w.num,z2l,w.loc⟩
def z6g (h:Hav):Syn:=⟨0,h.path,0,h.loc,z2l⟩
def updT (h w:Hav):Syn:=⟨0,w.path,w.num,h.loc,w.loc⟩
instance:DecidableEq Hav:=fun a b=>by
 cases a;cases b
 rw[Hav.mk.injEq];exact inferInstance
def z6h:Nat→List Hav→List Hav→List Syn
 | 0,_,_=>[]
 | _+1,[],[]=>[]
 | n+1,h :: hs,[]=>z6g h :: z6h n hs []
 | n+1,[],w :: ws=>z6f w :: z6h n [] ws
 | n+1,h :: hs,w :: ws=>if z2u h.path w.path<0 then z6g h :: z6h n hs (w :: ws) else if 0<z2u h.path w.path then z6f w :: z6h n (h :: hs) ws else (if h=w then [] else [updT h w])++z6h n hs ws
def z6i (h w:Option Hav):Option Syn:=
 match h,w with
 | none,none=>none
 | some h,none=>some (z6g h)
 | none,some w=>some (z6f w)
 | some h,some w=>if h=w then none else some (updT h w)
theorem z6j:∀(n:Nat) (hs ws:List Hav) (x:Syn),x∈z6h n hs ws→(∃ h∈hs,h.path=x.path)∨∃ w∈ws,w.path=x.path
 | 0,_,_,x,h=>by simp [z6h] at h
 | _+1,[],[],x,h=>by simp [z6h] at h
 | n+1,h :: hs,[],x,hx=>by
  simp only[z6h,List.mem_cons] at hx
  rcases hx with rfl | hx
  ·exact .inl ⟨h,List.mem_cons_self ..,rfl⟩
  ·rcases z6j n hs [] x hx with⟨y,hy,e⟩ | ⟨y,hy,e⟩
   ·exact .inl ⟨y,List.mem_cons_of_mem _ hy,e⟩
   ·cases hy
 | n+1,[],w :: ws,x,hx=>by
  simp only[z6h,List.mem_cons] at hx
  rcases hx with rfl | hx
  ·exact .inr ⟨w,List.mem_cons_self ..,rfl⟩
  ·rcases z6j n [] ws x hx with⟨y,hy,e⟩ | ⟨y,hy,e⟩
   ·cases hy
   ·exact .inr ⟨y,List.mem_cons_of_mem _ hy,e⟩
 | n+1,h :: hs,w :: ws,x,hx=>by
  simp only[z6h] at hx
  split at hx
  ·rcases List.mem_cons.1 hx with rfl | hx
   ·exact .inl ⟨h,List.mem_cons_self ..,rfl⟩
   ·rcases z6j n hs (w :: ws) x hx with⟨y,hy,e⟩ | ⟨y,hy,e⟩
    ·exact .inl ⟨y,List.mem_cons_of_mem _ hy,e⟩
    ·exact .inr ⟨y,hy,e⟩
  ·split at hx
   ·rcases List.mem_cons.1 hx with rfl | hx
    ·exact .inr ⟨w,List.mem_cons_self ..,rfl⟩
    ·rcases z6j n (h :: hs) ws x hx with⟨y,hy,e⟩ | ⟨y,hy,e⟩
     ·exact .inl ⟨y,hy,e⟩
     ·exact .inr ⟨y,List.mem_cons_of_mem _ hy,e⟩
   ·rcases List.mem_append.1 hx with hx | hx
    ·split at hx
     ·cases hx
     ·rw[List.mem_singleton] at hx;subst hx;exact .inr ⟨w,List.mem_cons_self ..,rfl⟩
    ·rcases z6j n hs ws x hx with⟨y,hy,e⟩ | ⟨y,hy,e⟩
     ·exact .inl ⟨y,List.mem_cons_of_mem _ hy,e⟩
     ·exact .inr ⟨y,List.mem_cons_of_mem _ hy,e⟩
theorem z6k {a b:ByteArray}(ha:z2s a=true)(hb:z2s b=true)(h1:¬ z2u a b<0)(h2:¬ 0<z2u a b):a=b:=z5r ha hb (by omega)
theorem z6l:∀(n:Nat) (hs ws:List Hav),hs.length+ws.length≤n→z6b hs→z6b ws→(∀ x∈hs,z2s x.path=true)→(∀ x∈ws,z2s x.path=true) →
  z6c (z6h n hs ws)∧∀ p,z6e (z6h n hs ws) p=z6i (z6d hs p) (z6d ws p)
 | 0,hs,ws,hn,_,_,_,_=>by
  have e1:hs=[]:=List.eq_nil_of_length_eq_zero (by omega)
  have e2:ws=[]:=List.eq_nil_of_length_eq_zero (by omega)
  subst e1 e2;exact⟨List.Pairwise.nil,fun p=>rfl⟩
 | _+1,[],[],_,_,_,_,_=>⟨List.Pairwise.nil,fun p=>rfl⟩
 | n+1,h :: hs,[],hn,h1,h2,v1,v2=>by
  obtain⟨i1,i2⟩:=z6l n hs [] (by simp at hn ⊢;omega) h1.tail h2 (fun x hx=>v1 x (List.mem_cons_of_mem _ hx)) v2
  simp only[z6h]
  refine⟨List.pairwise_cons.2 ⟨fun x hx=>?_,i1⟩,fun p=>?_⟩
  ·rcases z6j _ _ _ _ hx with⟨y,hy,e⟩ | ⟨y,hy,e⟩
   ·rw[← e];exact h1.head y hy
   ·cases hy
  ·show z5y Syn.path _ p=_
   rw[z63];show _=z6i (z5y Hav.path (h :: hs) p) (z5y Hav.path [] p)
   rw[z63];show (if h.path=p then _ else _)=_
   split
   ·rfl
   ·exact i2 p
 | n+1,[],w :: ws,hn,h1,h2,v1,v2=>by
  obtain⟨i1,i2⟩:=z6l n [] ws (by simp at hn ⊢;omega) h1 h2.tail v1 (fun x hx=>v2 x (List.mem_cons_of_mem _ hx))
  simp only[z6h]
  refine⟨List.pairwise_cons.2 ⟨fun x hx=>?_,i1⟩,fun p=>?_⟩
  ·rcases z6j _ _ _ _ hx with⟨y,hy,e⟩ | ⟨y,hy,e⟩
   ·cases hy
   ·rw[← e];exact h2.head y hy
  ·show z5y Syn.path _ p=_
   rw[z63];show _=z6i (z5y Hav.path [] p) (z5y Hav.path (w :: ws) p)
   rw[z63];show (if w.path=p then _ else _)=_
   split
   ·rfl
   ·exact i2 p
 | n+1,h :: hs,w :: ws,hn,h1,h2,v1,v2=>by
  have vh:=v1 h (List.mem_cons_self ..);have vw:=v2 w (List.mem_cons_self ..);have tr:∀ {a b c:ByteArray},z2s a=true→z2s b=true→z2s c=true→z2u a b<0→z2u b c<0→z2u a c<0:=fun x y z=>z5f x y z;simp only[z6h]
  by_cases c1:z2u h.path w.path<0
  ·rw[if_pos c1];obtain⟨i1,i2⟩:=z6l n hs (w :: ws) (by simp at hn ⊢;omega) h1.tail h2 (fun x hx=>v1 x (List.mem_cons_of_mem _ hx)) v2
   refine⟨List.pairwise_cons.2 ⟨fun x hx=>?_,i1⟩,fun p=>?_⟩
   ·rcases z6j _ _ _ _ hx with⟨y,hy,e⟩ | ⟨y,hy,e⟩
    ·rw[← e];exact h1.head y hy
    ·rw[← e];rcases List.mem_cons.1 hy with rfl | hy'
     ·exact c1
     ·exact tr vh vw (v2 y hy) c1 (h2.head y hy')
   ·show z5y Syn.path _ p=_
    rw[z63];show (if h.path=p then _ else _)=z6i (z5y Hav.path (h :: hs) p) (z5y Hav.path (w :: ws) p)
    rw[z63];by_cases e:h.path=p
    ·rw[if_pos e,if_pos e];have:z5y Hav.path (w :: ws) p=none:=z62.2 fun a ha ea=>by
      rcases List.mem_cons.1 ha with rfl | ha'
      ·exact z5z c1 (e.trans ea.symm)
      ·exact z5z (tr vh vw (v2 a ha) c1 (h2.head a ha')) (e.trans ea.symm)
     rw[this];rfl
    ·rw[if_neg e,if_neg e];exact i2 p
  ·rw[if_neg c1];by_cases c2:0<z2u h.path w.path
   ·rw[if_pos c2];have c3:z2u w.path h.path<0:=by rw[z5q];omega
    obtain⟨i1,i2⟩:=z6l n (h :: hs) ws (by simp at hn ⊢;omega) h1 h2.tail v1 (fun x hx=>v2 x (List.mem_cons_of_mem _ hx))
    refine⟨List.pairwise_cons.2 ⟨fun x hx=>?_,i1⟩,fun p=>?_⟩
    ·rcases z6j _ _ _ _ hx with⟨y,hy,e⟩ | ⟨y,hy,e⟩
     ·rw[← e];rcases List.mem_cons.1 hy with rfl | hy'
      ·exact c3
      ·exact tr vw vh (v1 y hy) c3 (h1.head y hy')
     ·rw[← e];exact h2.head y hy
    ·show z5y Syn.path _ p=_
     rw[z63];show (if w.path=p then _ else _)=z6i (z5y Hav.path (h :: hs) p) (z5y Hav.path (w :: ws) p)
     rw[z63 (l:=ws)];by_cases e:w.path=p
     ·rw[if_pos e,if_pos e];have:z5y Hav.path (h :: hs) p=none:=z62.2 fun a ha ea=>by
       rcases List.mem_cons.1 ha with rfl | ha'
       ·exact z5z c3 (e.trans ea.symm)
       ·exact z5z (tr vw vh (v1 a ha) c3 (h1.head a ha')) (e.trans ea.symm)
      rw[this];rfl
     ·rw[if_neg e,if_neg e];exact i2 p
   ·rw[if_neg c2];have ep:=z6k vh vw c1 c2;obtain⟨i1,i2⟩:=z6l n hs ws (by simp at hn ⊢;omega) h1.tail h2.tail (fun x hx=>v1 x (List.mem_cons_of_mem _ hx)) (fun x hx=>v2 x (List.mem_cons_of_mem _ hx))
    have hn1:∀ x∈z6h n hs ws,z2u w.path x.path<0:=fun x hx=>by
     rcases z6j _ _ _ _ hx with⟨y,hy,e⟩ | ⟨y,hy,e⟩
     ·rw[← e,← ep];exact h1.head y hy
     ·rw[← e];exact h2.head y hy
    refine⟨?_,fun p=>?_⟩
    ·split
     ·exact i1
     ·exact List.pairwise_cons.2 ⟨hn1,i1⟩
    ·show _=z6i (z5y Hav.path (h :: hs) p) (z5y Hav.path (w :: ws) p)
     rw[z63,z63];by_cases e:w.path=p
     ·rw[if_pos (ep.trans e),if_pos e];have hno:z5y Syn.path (z6h n hs ws) p=none:=z62.2 fun x hx ex=>z5z (hn1 x hx) (e.trans ex.symm);by_cases eq:h=w
      ·rw[if_pos eq,List.nil_append];show z5y Syn.path _ p=_
       rw[hno];exact (if_pos eq).symm
      ·rw[if_neg eq,List.singleton_append];show z5y Syn.path _ p=_
       rw[z63];show (if w.path=p then _ else _)=_
       rw[if_pos e];exact (if_neg eq).symm
     ·rw[if_neg (fun e2=>e (ep.symm.trans e2)),if_neg e];by_cases eq:h=w
      ·rw[if_pos eq,List.nil_append];exact i2 p
      ·rw[if_neg eq,List.singleton_append];show z5y Syn.path _ p=_
       rw[z63];show (if w.path=p then _ else _)=_
       rw[if_neg e];exact i2 p
inductive Bl (hs:List Hav) (pl:List Syn):ByteArray→Prop
 | free {x:Syn} {h:Hav}:x∈pl→z3o x.kind=false→x.dst≠z2l→h∈hs→h.loc=x.dst→h.path≠x.path→z6e pl h.path=none→Bl hs pl x.path
 | stay {x y:Syn} {h:Hav}:x∈pl→z3o x.kind=false→x.dst≠z2l→h∈hs→h.loc=x.dst→h.path≠x.path→z6e pl h.path=some y→z3o y.kind=true→Bl hs pl x.path
 | next {x:Syn} {h:Hav}:x∈pl→z3o x.kind=false→x.dst≠z2l→h∈hs→h.loc=x.dst→h.path≠x.path→Bl hs pl h.path→Bl hs pl x.path
noncomputable def blB (hs:List Hav)(pl:List Syn)(p:ByteArray):Bool:=@decide (Bl hs pl p) (Classical.propDecidable _)
theorem zee {hs:List Hav}{pl:List Syn}{p:ByteArray}:blB hs pl p=true↔Bl hs pl p:=by unfold blB;exact @decide_eq_true_iff _ (Classical.propDecidable _)
def zef (b:ByteArray→Bool)(x:Syn):Syn:=if b x.path then { x with kind:=5 } else x
def zeg (b:ByteArray→Bool)(pl:List Syn):List Syn:=pl.map (zef b)
theorem zeh (b:ByteArray→Bool)(x:Syn):(zef b x).path=x.path:=by unfold zef;split <;> rfl
theorem zei (b:ByteArray→Bool)(x:Syn):(zef b x).num=x.num∧(zef b x).frm=x.frm∧(zef b x).dst=x.dst:=by unfold zef;split <;> exact⟨rfl,rfl,rfl⟩
theorem zej (b:ByteArray→Bool)(x:Syn):z3o (zef b x).kind=(b x.path || z3o x.kind):=by
 unfold zef;cases b x.path
 ·rfl
 ·rfl
theorem zek (b:ByteArray→Bool)(pl:List Syn)(p:ByteArray):z6e (zeg b pl) p=(z6e pl p).map (zef b):=z69 (zeh b) pl p
theorem zel {pl:List Syn}(h:z6c pl)(b:ByteArray→Bool):z6c (zeg b pl):=z68 h (zeh b)
def zem (pl:List Syn)(b:ByteArray→Bool)(p:ByteArray):Prop:=z6e pl p=none∨∃ y,z6e pl p=some y∧(z3o y.kind=true∨b p=true)
theorem bl_eq {hs:List Hav}{pl:List Syn}{b:ByteArray→Bool}(hs1:∀ p,b p=true→Bl hs pl p)
  (hc:∀ x∈pl,z3o x.kind=false→b x.path=false→x.dst≠z2l→∀ h∈hs,h.loc=x.dst→h.path≠x.path→¬ zem pl b h.path):b=blB hs pl:=by
 have key:∀ p,Bl hs pl p→b p=true:=by
  intro p hp;induction hp with
  | free h1 h2 h3 h4 h5 h6 h7 =>
   cases e:b _ with
   | true=>rfl
   | false=>exact absurd (.inl h7) (hc _ h1 h2 e h3 _ h4 h5 h6)
  | stay h1 h2 h3 h4 h5 h6 h7 h8 =>
   cases e:b _ with
   | true=>rfl
   | false=>exact absurd (.inr ⟨_,h7,.inl h8⟩) (hc _ h1 h2 e h3 _ h4 h5 h6)
  | @next x h h1 h2 h3 h4 h5 h6 h7 ih =>
   cases e:b x.path with
   | true=>rfl
   | false =>
    have hst:zem pl b h.path:=by
     cases hg:z6e pl h.path with
     | none=>exact .inl hg
     | some y=>exact .inr ⟨y,hg,.inr ih⟩
    exact absurd hst (hc _ h1 h2 e h3 _ h4 h5 h6)
 funext p
 rw[Bool.eq_iff_iff,zee];exact⟨hs1 p,key p⟩
theorem zen {hs:List Hav}{pl:List Syn}{b:ByteArray→Bool}(hb:∀ p,b p=true→Bl hs pl p){x:Syn}{h:Hav}(h1:x∈pl)(h2:z3o x.kind=false)(h3:x.dst≠z2l)(h4:h∈hs)(h5:h.loc=x.dst)(h6:h.path≠x.path)(h7:zem pl b h.path):Bl hs pl x.path:=by
 rcases h7 with h7 | ⟨y,h7,h8 | h8⟩
 ·exact .free h1 h2 h3 h4 h5 h6 h7
 ·exact .stay h1 h2 h3 h4 h5 h6 h7 h8
 ·exact .next h1 h2 h3 h4 h5 h6 (hb _ h8)
def zeo (ho:Option Hav)(so:Option Syn):Option Hav:=
 match so with
 | none=>ho
 | some x=>if z3o x.kind then ho else if x.dst=z2l then none else some ⟨x.path,x.num,x.dst⟩
theorem zep {x:Syn}{a:Hav}(h:a∈z4t x):a.path=x.path:=by
 unfold z4t at h;split at h
 ·cases h
 ·unfold z4s at h;split at h
  ·cases h
  ·rw[List.mem_singleton] at h;subst h;rfl
theorem zeq {x:Syn}{a:Hav}(h:a∈z4s x):a.path=x.path:=by
 unfold z4s at h;split at h
 ·cases h
 ·rw[List.mem_singleton] at h;subst h;rfl
theorem zer (x:Syn):z6b (z4t x):=by
 unfold z4t z4s;split
 ·exact List.Pairwise.nil
 ·split
  ·exact List.Pairwise.nil
  ·exact List.pairwise_singleton ..
theorem zes (x:Syn):z6b (z4s x):=by
 unfold z4s;split
 ·exact List.Pairwise.nil
 ·exact List.pairwise_singleton ..
theorem zet (x:Syn)(p:ByteArray):z6d (z4t x) p=if x.path=p then zeo none (some x) else none:=by
 show z5y Hav.path _ p=_
 unfold z4t z4s zeo;by_cases h1:z3o x.kind=true
 ·rw[if_pos h1];simp [h1,z5y]
 ·rw[if_neg h1];by_cases h2:x.dst=z2l
  ·rw[if_pos h2];simp [h1,h2,z5y]
  ·rw[if_neg h2,z63];simp [h1,h2,z5y]
theorem zeu (x:Syn)(p:ByteArray):z6d (z4s x) p=if x.path=p then (if x.dst=z2l then none else some ⟨x.path,x.num,x.dst⟩) else none:=by
 show z5y Hav.path _ p=_
 unfold z4s;by_cases h2:x.dst=z2l
 ·rw[if_pos h2];simp [h2,z5y]
 ·rw[if_neg h2,z63];simp [h2,z5y]
theorem zev {h:Hav}{hs:List Hav}{x:Syn}{r:List Syn}(c:z2u x.path h.path<0):z4y (h :: hs) (x :: r)=z4t x++z4y (h :: hs) r:=by
 simp only[z4y,z4u,z4v,if_pos c,List.append_assoc]
theorem zew {h:Hav}{hs:List Hav}{x:Syn}{r:List Syn}(c:¬ z2u x.path h.path<0)(e:x.path=h.path):z4y (h :: hs) (x :: r)=(if z3o x.kind then [h] else z4s x)++z4y hs r:=by
 simp only[z4y,z4u,z4v,if_neg c,z4w,z4x,if_pos e,List.nil_append]
theorem zex {h:Hav}{hs:List Hav}{x:Syn}{r:List Syn}(c:¬ z2u x.path h.path<0)(e:¬ x.path=h.path):z4y (h :: hs) (x :: r)=h :: z4y hs (x :: r):=by
 simp only[z4y,z4u,z4v,if_neg c,z4w,z4x,if_neg e,List.nil_append,List.singleton_append]
theorem zey {h:Hav}{hs:List Hav}:z4y (h :: hs) []=h :: z4y hs []:=by
 simp only[z4y,z4u,z4v,z4w,z4x,List.nil_append,List.singleton_append]
theorem zez:∀(n:Nat) (hs:List Hav) (ps:List Syn),hs.length+ps.length≤n→z6b hs→z6c ps→(∀ x∈hs,z2s x.path=true)→(∀ x∈ps,z2s x.path=true) →
  z6b (z4y hs ps)∧(∀ a∈z4y hs ps,(∃ h∈hs,h.path=a.path)∨∃ x∈ps,x.path=a.path)∧∀ p,z6d (z4y hs ps) p=zeo (z6d hs p) (z6e ps p)
 | 0,hs,ps,hn,_,_,_,_=>by
  have e1:hs=[]:=List.eq_nil_of_length_eq_zero (by omega)
  have e2:ps=[]:=List.eq_nil_of_length_eq_zero (by omega)
  subst e1 e2;exact⟨List.Pairwise.nil,(fun a ha=>by cases ha),fun p=>rfl⟩
 | _+1,[],[],_,_,_,_,_=>⟨List.Pairwise.nil,(fun a ha=>by cases ha),fun p=>rfl⟩
 | n+1,[],x :: r,hn,h1,h2,v1,v2=>by
  obtain⟨i1,i2,i3⟩:=zez n [] r (by simp at hn ⊢;omega) h1 h2.tail v1 (fun y hy=>v2 y (List.mem_cons_of_mem _ hy))
  have e:z4y [] (x :: r)=z4t x++z4y [] r:=by simp only[z4y,List.flatMap_cons]
  rw[e];refine⟨z67 (zer x) i1 fun a ha b hb=>?_,fun a ha=>?_,fun p=>?_⟩
  ·rw[zep ha];rcases i2 b hb with⟨y,hy,_⟩ | ⟨y,hy,e⟩
   ·cases hy
   ·rw[← e];exact h2.head y hy
  ·rcases List.mem_append.1 ha with ha | ha
   ·exact .inr ⟨x,List.mem_cons_self ..,(zep ha).symm⟩
   ·rcases i2 a ha with⟨y,hy,_⟩ | ⟨y,hy,e⟩
    ·cases hy
    ·exact .inr ⟨y,List.mem_cons_of_mem _ hy,e⟩
  ·show z5y Hav.path _ p=zeo _ (z5y Syn.path _ p)
   rw[z64,z63];have:=zet x p;show (z6d (z4t x) p).or (z6d (z4y [] r) p)=_
   rw[this,i3];by_cases e:x.path=p
   ·rw[if_pos e,if_pos e];have hno:z6e r p=none:=z62.2 fun y hy ey=>z5z (h2.head y hy) (e.trans ey.symm);rw[hno];show (zeo none (some x)).or none=zeo none (some x)
    cases zeo none (some x) <;> rfl
   ·rw[if_neg e,if_neg e];rfl
 | n+1,h :: hs,[],hn,h1,h2,v1,v2=>by
  obtain⟨i1,i2,i3⟩:=zez n hs [] (by simp at hn ⊢;omega) h1.tail h2 (fun y hy=>v1 y (List.mem_cons_of_mem _ hy)) v2
  rw[zey];refine⟨List.pairwise_cons.2 ⟨fun b hb=>?_,i1⟩,fun a ha=>?_,fun p=>?_⟩
  ·rcases i2 b hb with⟨y,hy,e⟩ | ⟨y,hy,_⟩
   ·rw[← e];exact h1.head y hy
   ·cases hy
  ·rcases List.mem_cons.1 ha with rfl | ha
   ·exact .inl ⟨_,List.mem_cons_self ..,rfl⟩
   ·rcases i2 a ha with⟨y,hy,e⟩ | ⟨y,hy,_⟩
    ·exact .inl ⟨y,List.mem_cons_of_mem _ hy,e⟩
    ·cases hy
  ·show z5y Hav.path _ p=zeo (z5y Hav.path _ p) _
   rw[z63,z63];split
   ·rfl
   ·exact i3 p
 | n+1,h :: hs,x :: r,hn,h1,h2,v1,v2=>by
  have vh:=v1 h (List.mem_cons_self ..);have vx:=v2 x (List.mem_cons_self ..);by_cases c1:z2u x.path h.path<0
  ·obtain⟨i1,i2,i3⟩:=zez n (h :: hs) r (by simp at hn ⊢;omega) h1 h2.tail v1 (fun y hy=>v2 y (List.mem_cons_of_mem _ hy))
   rw[zev c1];have lo:∀ y∈h :: hs,z2u x.path y.path<0:=fun y hy=>by
    rcases List.mem_cons.1 hy with rfl | hy'
    ·exact c1
    ·exact z5f vx vh (v1 y hy) c1 (h1.head y hy')
   refine⟨z67 (zer x) i1 fun a ha b hb=>?_,fun a ha=>?_,fun p=>?_⟩
   ·rw[zep ha];rcases i2 b hb with⟨y,hy,e⟩ | ⟨y,hy,e⟩
    ·rw[← e];exact lo y hy
    ·rw[← e];exact h2.head y hy
   ·rcases List.mem_append.1 ha with ha | ha
    ·exact .inr ⟨x,List.mem_cons_self ..,(zep ha).symm⟩
    ·rcases i2 a ha with⟨y,hy,e⟩ | ⟨y,hy,e⟩
     ·exact .inl ⟨y,hy,e⟩
     ·exact .inr ⟨y,List.mem_cons_of_mem _ hy,e⟩
   ·show z5y Hav.path _ p=zeo (z5y Hav.path (h :: hs) p) (z5y Syn.path (x :: r) p)
    rw[z64,z63 (k:=Syn.path)];show (z6d (z4t x) p).or (z6d (z4y (h :: hs) r) p)=_
    rw[zet,i3];by_cases e:x.path=p
    ·rw[if_pos e,if_pos e];have hno:z6e r p=none:=z62.2 fun y hy ey=>z5z (h2.head y hy) (e.trans ey.symm);have hnh:z6d (h :: hs) p=none:=z62.2 fun y hy ey=>z5z (lo y hy) (e.trans ey.symm);rw[hno,hnh];show (zeo none (some x)).or none=zeo (z6d (h :: hs) p) (some x)
     rw[hnh];cases zeo none (some x) <;> rfl
    ·rw[if_neg e,if_neg e];rfl
  ·by_cases c2:x.path=h.path
   ·obtain⟨i1,i2,i3⟩:=zez n hs r (by simp at hn ⊢;omega) h1.tail h2.tail (fun y hy=>v1 y (List.mem_cons_of_mem _ hy)) (fun y hy=>v2 y (List.mem_cons_of_mem _ hy))
    rw[zew c1 c2];have lo:∀ b∈z4y hs r,z2u x.path b.path<0:=fun b hb=>by
     rcases i2 b hb with⟨y,hy,e⟩ | ⟨y,hy,e⟩
     ·rw[← e,c2];exact h1.head y hy
     ·rw[← e];exact h2.head y hy
    have hkp:∀ a∈(if z3o x.kind then [h] else z4s x),a.path=x.path:=fun a ha=>by
     split at ha
     ·rw[List.mem_singleton] at ha;subst ha;exact c2.symm
     ·exact zeq ha
    refine⟨z67 ?_ i1 fun a ha b hb=>by rw[hkp a ha];exact lo b hb,fun a ha=>?_,fun p=>?_⟩
    ·split
     ·exact List.pairwise_singleton ..
     ·exact zes x
    ·rcases List.mem_append.1 ha with ha | ha
     ·exact .inr ⟨x,List.mem_cons_self ..,(hkp a ha).symm⟩
     ·rcases i2 a ha with⟨y,hy,e⟩ | ⟨y,hy,e⟩
      ·exact .inl ⟨y,List.mem_cons_of_mem _ hy,e⟩
      ·exact .inr ⟨y,List.mem_cons_of_mem _ hy,e⟩
    ·show z5y Hav.path _ p=zeo (z5y Hav.path (h :: hs) p) (z5y Syn.path (x :: r) p)
     rw[z64,z63 (k:=Syn.path),z63 (l:=hs)];have hr:z5y Hav.path (z4y hs r) p=zeo (z6d hs p) (z6e r p):=i3 p;rw[hr];by_cases e:x.path=p
     ·rw[if_pos e,if_pos (c2.symm.trans e)];have hno:z6e r p=none:=z62.2 fun y hy ey=>z5z (h2.head y hy) (e.trans ey.symm);have hnh:z6d hs p=none:=z62.2 fun y hy ey=>z5z (h1.head y hy) ((c2.symm.trans e).trans ey.symm);rw[hno,hnh];show Option.or _ none=_
      rw[Option.or_none];by_cases st:z3o x.kind=true
      ·rw[if_pos st,z63,if_pos (c2.symm.trans e)];simp [zeo,st]
      ·rw[if_neg st];have:=zeu x p;rw[if_pos e] at this;show z6d (z4s x) p=_
       rw[this];simp [zeo,st]
     ·rw[if_neg e,if_neg (fun e2=>e (c2.trans e2))];have hno:z5y Hav.path (if z3o x.kind then [h] else z4s x) p=none:=z62.2 fun a ha ea=>e ((hkp a ha).symm.trans ea);rw[hno];rfl
   ·obtain⟨i1,i2,i3⟩:=zez n hs (x :: r) (by simp at hn ⊢;omega) h1.tail h2 (fun y hy=>v1 y (List.mem_cons_of_mem _ hy)) v2
    rw[zex c1 c2];have c3:z2u h.path x.path<0:=by
     have h0:¬ z2u x.path h.path=0:=fun e0=>c2 (z5r vx vh e0);rw[z5q];omega
    have lo:∀ y∈x :: r,z2u h.path y.path<0:=fun y hy=>by
     rcases List.mem_cons.1 hy with rfl | hy'
     ·exact c3
     ·exact z5f vh vx (v2 y hy) c3 (h2.head y hy')
    refine⟨List.pairwise_cons.2 ⟨fun b hb=>?_,i1⟩,fun a ha=>?_,fun p=>?_⟩
    ·rcases i2 b hb with⟨y,hy,e⟩ | ⟨y,hy,e⟩
     ·rw[← e];exact h1.head y hy
     ·rw[← e];exact lo y hy
    ·rcases List.mem_cons.1 ha with rfl | ha
     ·exact .inl ⟨_,List.mem_cons_self ..,rfl⟩
     ·rcases i2 a ha with⟨y,hy,e⟩ | ⟨y,hy,e⟩
      ·exact .inl ⟨y,List.mem_cons_of_mem _ hy,e⟩
      ·exact .inr ⟨y,hy,e⟩
    ·show z5y Hav.path _ p=zeo (z5y Hav.path (h :: hs) p) (z5y Syn.path (x :: r) p)
     rw[z63,z63 (l:=hs)];by_cases e:h.path=p
     ·rw[if_pos e,if_pos e];have hno:z5y Syn.path (x :: r) p=none:=z62.2 fun y hy ey=>z5z (lo y hy) (e.trans ey.symm);rw[hno];rfl
     ·rw[if_neg e,if_neg e];exact i3 p
structure zf0 (l:List Hav):Prop where
 srt:z6b l
 ok:∀ x∈l,x.okB=true
 loc:∀ x∈l,∀ y∈l,x.loc=y.loc→x.path=y.path
theorem zf1 {x:Hav}(h:x.okB=true):z3q x.path=true∧z3q x.loc=true∧1≤x.num:=by
 unfold Hav.okB at h;simp only[Bool.and_eq_true,decide_eq_true_eq] at h
 exact⟨h.1.1,h.1.2,h.2⟩
theorem zf2 {p:ByteArray}(h:z3q p=true):z2s p=true∧p.size≤200∧p≠z2l:=by
 unfold z3q at h;simp only[Bool.and_eq_true,decide_eq_true_eq] at h
 refine⟨h.2,h.1,?_⟩;rintro rfl;exact absurd h.2 (by decide)
theorem zf0.valid {l:List Hav}(h:zf0 l):∀ x∈l,z2s x.path=true:=fun x hx=>(zf2 (zf1 (h.ok x hx)).1).1
theorem zf0.locNe {l:List Hav}(h:zf0 l){x:Hav}(hx:x∈l):x.loc≠z2l:=(zf2 (zf1 (h.ok x hx)).2.1).2.2
theorem zf3:zf0 []:=⟨List.Pairwise.nil,(fun x hx=>by cases hx),(fun x hx=>by cases hx)⟩
theorem zf4:∀(l:List Hav) (p:Option Hav) (s:List ByteArray),(∀ q,p=some q→z2s q.path=true) →
  (z4f p s l=0↔zf0 l∧(∀ q,p=some q→∀ x∈l,z2u q.path x.path<0)∧∀ x∈l,x.loc∉s)
 | [],p,s,_=>⟨fun _=>⟨zf3,(fun q _ x hx=>by cases hx),(fun x hx=>by cases hx)⟩,fun _=>rfl⟩
 | h :: r,p,s,hv=>by
  rw[z4f];by_cases h1:(!h.okB || z4d p h)=true
  ·rw[if_pos h1];refine⟨fun e=>absurd e (by decide),fun ⟨g1,g2,g3⟩=>?_⟩
   have o1:=g1.ok h (List.mem_cons_self ..);rw[o1] at h1;cases p with
   | none=>exact absurd h1 (by show ¬(false || false)=true;decide)
   | some q =>
    have:=g2 q rfl h (List.mem_cons_self ..);rw[z4e] at h1;simp at h1
    omega
  ·rw[if_neg h1];have o1:h.okB=true:=by cases e:h.okB;rw[e] at h1;exact absurd rfl h1;rfl
   have o2:z4d p h=false:=by cases e:z4d p h;rfl;rw[e,Bool.or_true] at h1;exact absurd rfl h1
   have vh:=(zf2 (zf1 o1).1).1;by_cases h2:h.loc∈s
   ·rw[if_pos h2];exact⟨fun e=>absurd e (by decide),fun ⟨g1,g2,g3⟩=>absurd h2 (g3 h (List.mem_cons_self ..))⟩
   ·rw[if_neg h2,zf4 r (some h) (h.loc :: s) (fun q e=>by rw[← Option.some.inj e];exact vh)]
    constructor
    ·rintro⟨g1,g2,g3⟩;have g2':=g2 h rfl;refine⟨⟨List.pairwise_cons.2 ⟨g2',g1.srt⟩,fun x hx=>?_,fun x hx y hy e=>?_⟩,fun q e x hx=>?_,fun x hx=>?_⟩
     ·rcases List.mem_cons.1 hx with rfl | hx
      ·exact o1
      ·exact g1.ok x hx
     ·rcases List.mem_cons.1 hx with rfl | hx
      ·rcases List.mem_cons.1 hy with rfl | hy
       ·rfl
       ·exact absurd (by rw[← e];exact List.mem_cons_self ..) (g3 y hy)
      ·rcases List.mem_cons.1 hy with e2 | hy
       ·exact absurd (by rw[e,e2];exact List.mem_cons_self ..) (g3 x hx)
       ·exact g1.loc x hx y hy e
     ·subst e;have hq:z2u q.path h.path<0:=by rw[z4e] at o2;simp at o2;omega
      rcases List.mem_cons.1 hx with rfl | hx
      ·exact hq
      ·exact z5f (hv q rfl) vh (g1.valid x hx) hq (g2' x hx)
     ·rcases List.mem_cons.1 hx with rfl | hx
      ·exact h2
      ·exact fun hs=>g3 x hx (List.mem_cons_of_mem _ hs)
    ·rintro⟨g1,g2,g3⟩;refine⟨⟨g1.srt.tail,fun x hx=>g1.ok x (List.mem_cons_of_mem _ hx),fun x hx y hy=>g1.loc x (List.mem_cons_of_mem _ hx) y (List.mem_cons_of_mem _ hy)⟩,fun q e x hx=>?_,fun x hx hs=>?_⟩
     ·rw[← Option.some.inj e];exact g1.srt.head x hx
     ·rcases List.mem_cons.1 hs with e | hs
      ·exact z5z (g1.srt.head x hx) (g1.loc h (List.mem_cons_self ..) x (List.mem_cons_of_mem _ hx) e.symm)
      ·exact g3 x (List.mem_cons_of_mem _ hx) hs
theorem zf5 {l:List Hav}:z4g l=0↔zf0 l∧l.length≤1024:=by
 unfold z4g;by_cases h:1024<l.length
 ·rw[if_pos h];exact⟨fun e=>absurd e (by decide),fun ⟨_,h2⟩=>by omega⟩
 ·rw[if_neg h,zf4 l none [] (fun q e=>by cases e)]
  exact⟨fun ⟨h1,_⟩=>⟨h1,by omega⟩,fun ⟨h1,_⟩=>⟨h1,(fun q e=>by cases e),(fun x _ hs=>by cases hs)⟩⟩
def zf6 (op dt:List ByteArray)(x:Syn):Int:=if x.path∈op then 6 else if (x.frm≠z2l∧x.frm∈dt)∨(x.dst≠z2l∧x.dst∈dt) then 5 else z3p x.frm x.dst
def zf7 (op dt:List ByteArray)(x:Syn):Syn:={ x with kind:=zf6 op dt x }
def zf8 (hs ws:List Hav)(op dt:List ByteArray):List Syn:=(z6h (hs.length+ws.length) hs ws).map (zf7 op dt)
noncomputable def zf9 (hs ws:List Hav)(op dt:List ByteArray):List Syn:=zeg (blB hs (zf8 hs ws op dt)) (zf8 hs ws op dt)
theorem zpv (f d:ByteArray):z3o (z3p f d)=false:=by unfold z3p;split;rfl;split;rfl;split <;> rfl
theorem zfa (a b:Hav):z6i (some a) (some b)=if a=b then none else some (updT a b):=rfl
theorem zfb {h w:Option Hav}{x:Syn}(e:z6i h w=some x):
  (∃ a,h=some a∧w=none∧x=z6g a)∨(∃ b,h=none∧w=some b∧x=z6f b)∨∃ a b,h=some a∧w=some b∧a≠b∧x=updT a b:=by
 cases h with
 | none =>
  cases w with
  | none=>cases e
  | some b=>exact .inr (.inl ⟨b,rfl,rfl,(Option.some.inj e).symm⟩)
 | some a =>
  cases w with
  | none=>exact .inl ⟨a,rfl,rfl,(Option.some.inj e).symm⟩
  | some b =>
   rw[zfa] at e;by_cases eq:a=b
   ·rw[if_pos eq] at e;cases e
   ·rw[if_neg eq] at e;exact .inr (.inr ⟨a,b,rfl,rfl,eq,(Option.some.inj e).symm⟩)
section
variable {hs ws : List Hav} {op dt : List ByteArray}
theorem zfc (h1:zf0 hs)(h2:zf0 ws):z6c (zf8 hs ws op dt)∧∀ p,z6e (zf8 hs ws op dt) p=(z6i (z6d hs p) (z6d ws p)).map (zf7 op dt):=by
 obtain⟨i1,i2⟩:=z6l (hs.length+ws.length) hs ws (Nat.le_refl _) h1.srt h2.srt h1.valid h2.valid;refine⟨z68 i1 fun _=>rfl,fun p=>?_⟩;show z5y Syn.path (List.map _ _) p=_
 rw[z69 (k:=Syn.path) (kb:=Syn.path) (f:=zf7 op dt) (fun _=>rfl)];exact congrArg _ (i2 p)
theorem zfd (h1:zf0 hs)(h2:zf0 ws):z6c (zf9 hs ws op dt)∧∀ p,z6e (zf9 hs ws op dt) p=(z6i (z6d hs p) (z6d ws p)).map fun x=>zef (blB hs (zf8 hs ws op dt)) (zf7 op dt x):=by
 obtain⟨i1,i2⟩:=zfc (op:=op) (dt:=dt) h1 h2;refine⟨zel i1 _,fun p=>?_⟩;show z6e (zeg _ _) p=_
 rw[zek,i2,Option.map_map];rfl
theorem zfe (h1:zf0 hs)(h2:zf0 ws){x:Syn}(hx:x∈zf9 hs ws op dt):
  ∃ y,z6i (z6d hs x.path) (z6d ws x.path)=some y∧x=zef (blB hs (zf8 hs ws op dt)) (zf7 op dt y)∧y.path=x.path:=by
 obtain⟨i1,i2⟩:=zfd (op:=op) (dt:=dt) h1 h2;have h:=z65 i1 hx;have h':z6e (zf9 hs ws op dt) x.path=some x:=h;rw[i2,Option.map_eq_some_iff] at h';obtain⟨y,e1,e2⟩:=h';refine⟨y,e1,e2.symm,?_⟩;have:=congrArg Syn.path e2;rw[zeh] at this;exact this
end
section
variable {κ α : Type} [BEq κ] {P : Program} {k : TypeId} {kv : κ → Value} {enc : α → Value} {w w' : World} {B : Nat} {f : κ → Option α}
def z6q (kv:κ→Value)(enc:α→Value)(w:World)(B:Nat)(f:κ→Option α):Prop:=∃ m:List (κ×Value),z1u kv w B m∧(m.map (·.1)).Nodup∧∀ x,z1p m x=(f x).map enc
theorem z6q.fmap (h:z6q kv enc w B f):z2f kv enc w B f:=by obtain⟨m,h,-,r⟩:=h;exact⟨m,h,r⟩
theorem z6q.lt (h:z6q kv enc w B f):B<w.heap.size:=h.fmap.lt
theorem z6q.keep (h:z6q kv enc w B f)(hk:w'.heap[B]? = w.heap[B]?):z6q kv enc w' B f:=by obtain⟨m,h,n,r⟩:=h;exact⟨m,h.keep hk,n,r⟩
theorem z6q.below (h:z6q kv enc w B f)(hb:Below w.heap.size w w'):z6q kv enc w' B f:=by obtain⟨m,h,n,r⟩:=h;exact⟨m,h.below hb,n,r⟩
theorem z6q.new (kv:κ→Value)(enc:α→Value)(w:World):z6q kv enc (w.alloc (.map #[] 0)) w.heap.size (fun _=>none):=⟨[],z1u.new kv w,List.nodup_nil,fun _=>rfl⟩
theorem z6r [LawfulBEq κ](k:κ)(v:Value):∀(m:List (κ×Value)) (x:κ),x∈(z1q m k v).map (·.1)→x=k∨x∈m.map (·.1)
 | [],x,h=>by simp [z1q] at h;exact .inl h
 | p :: m,x,h=>by
  by_cases hk:(k == p.1)=true
  ·have e:k=p.1:=eq_of_beq hk;simp only[z1q,hk,if_true,List.map_cons,List.mem_cons] at h ⊢
   rcases h with h | h
   ·exact .inl h
   ·exact .inr (.inr h)
  ·simp only[z1q,hk,if_false,List.map_cons,List.mem_cons,Bool.false_eq_true] at h ⊢
   rcases h with h | h
   ·exact .inr (.inl h)
   ·rcases z6r k v m x h with h | h
    ·exact .inl h
    ·exact .inr (.inr h)
theorem z6s [LawfulBEq κ](k:κ)(v:Value):∀(m:List (κ×Value)),(m.map (·.1)).Nodup→((z1q m k v).map (·.1)).Nodup
 | [],_=>by simp [z1q]
 | p :: m,h=>by
  rw[List.map_cons,List.nodup_cons] at h;by_cases hk:(k == p.1)=true
  ·have e:k=p.1:=eq_of_beq hk;simp only[z1q,hk,if_true,List.map_cons]
   rw[e,List.nodup_cons];exact h
  ·have hne:¬ k=p.1:=fun e=>hk (by rw[e];exact beq_self_eq_true _)
   simp only[z1q,hk,if_false,List.map_cons,Bool.false_eq_true]
   rw[List.nodup_cons];refine⟨fun hx=>?_,z6s k v m h.2⟩;rcases z6r k v m p.1 hx with e | e
   ·exact hne e.symm
   ·exact h.1 e
theorem z6q.update [LawfulBEq κ][DecidableEq κ](h:z6q kv enc w B f)(K:z1s P k kv){t e:TypeId}(ht:P.underlying t=some (.map k e))(x:κ)(v:α):
  ∃ w',(Instr.mapUpdate t (.map (some B)) (kv x) (enc v)).run P w=.ok () w'∧z6q kv enc w' B (upd f x v)∧w.grownBy w' (some B)∧w'.heap.size=w.heap.size:=by
 obtain⟨m,h,n,r⟩:=h;obtain⟨w',h1,h2,h3,h4⟩:=h.update K ht x (enc v);refine⟨w',h1,⟨_,h2,z6s _ _ _ n,fun y=>?_⟩,h3,h4⟩;rw[z2g];unfold upd;by_cases e:y=x
 ·rw[if_pos e,if_pos e];rfl
 ·rw[if_neg e,if_neg e];exact r y
end
def zle:List ByteArray:=[⟨#[47,47,99,47,97]⟩,⟨#[47,47,99,47,98]⟩,⟨#[47,47,99,47,120,47,97]⟩,⟨#[47,47,99,47,120,47,98]⟩,⟨#[47,47,119,47,97]⟩,⟨#[47,47,99,47,101]⟩,⟨#[47,47,99,47,120,47,122]⟩,⟨#[47,47,113,47,113]⟩]
theorem zlf:∀ p∈zle,z3q p=true:=by decide +kernel
structure zlg (x y:Hav):Prop where
 path:y.path=x.path
 loc:z3q y.loc=true
 num:1≤y.num∧y.num≤x.num+1
structure HvSt (l:List Hav)(k:Nat)(out:List Hav):Prop where
 srt:z6b out
 ok:∀ x∈out,x.okB=true
 one:∀ x∈out,∀ y∈out,x.loc=y.loc→x.path=y.path
 of:∀ x∈out,∃(j:Nat) (hj:j<l.length),j<k∧x.path=l[j].path
 len:out.length≤k
theorem hv_0 (l:List Hav):HvSt l 0 []:=⟨List.Pairwise.nil,(fun x h=>by cases h),(fun x h=>by cases h),(fun x h=>by cases h),Nat.le_refl _⟩
theorem hv_skip {l out:List Hav}{k:Nat}(h:HvSt l k out):HvSt l (k+1) out:=
 ⟨h.srt,h.ok,h.one,(fun x hx=>by obtain⟨j,hj,h1,h2⟩:=h.of x hx;exact⟨j,hj,by omega,h2⟩),Nat.le_succ_of_le h.len⟩
theorem hv_put {l out:List Hav}{k:Nat}{y:Hav}(h:HvSt l k out)(hl:zf0 l)(hk:k<l.length)(hy:zlg l[k] y)(hn:∀ x∈out,x.loc≠y.loc):HvSt l (k+1) (out++[y]):=by
 refine⟨?_,fun x hx=>?_,fun a ha b hb e=>?_,fun x hx=>?_,by rw[List.length_append];exact Nat.succ_le_succ h.len⟩
 ·refine z67 h.srt (List.pairwise_singleton _ _) fun a ha b hb=>?_;rw[List.mem_singleton] at hb;subst hb;obtain⟨j,hj,h1,h2⟩:=h.of a ha;rw[h2,hy.path];exact List.pairwise_iff_getElem.1 hl.srt j k hj hk h1
 ·rcases List.mem_append.1 hx with hx | hx
  ·exact h.ok x hx
  ·rw[List.mem_singleton] at hx;subst hx;have h0:=zf1 (hl.ok _ (List.getElem_mem hk));unfold Hav.okB;rw[hy.path,h0.1,hy.loc];have:=hy.num.1;simp
   omega
 ·rcases List.mem_append.1 ha with ha1 | ha1
  ·rcases List.mem_append.1 hb with hb1 | hb1
   ·exact h.one a ha1 b hb1 e
   ·rw[List.mem_singleton] at hb1;rw[hb1] at e;exact absurd e (hn a ha1)
  ·rw[List.mem_singleton] at ha1;rcases List.mem_append.1 hb with hb1 | hb1
   ·rw[ha1] at e;exact absurd e.symm (hn b hb1)
   ·rw[List.mem_singleton] at hb1;rw[ha1,hb1]
 ·rcases List.mem_append.1 hx with hx | hx
  ·obtain⟨j,hj,h1,h2⟩:=h.of x hx;exact⟨j,hj,by omega,h2⟩
  ·rw[List.mem_singleton] at hx;subst hx;exact⟨k,hk,by omega,hy.path⟩
theorem hv_end {l out:List Hav}{k:Nat}(h:HvSt l k out):zf0 out:=⟨h.srt,h.ok,h.one⟩
end Go.Proofs.YtegeboijhifmcaaGreatDoor
