/- A part. -/
import Derived.Test.YtlnjaagijaadmaaGreatDoorMvw5
import Derived.Test.YtlnjaagijaadmaaGreatDoorMvw6
import Derived.Shelf.SlSortCmp.KitK
import Derived.Lib.QuietBelow
import Derived.Laws.EntriesVeiled
import Derived.Deep.CutBlock
import Derived.Maps.OwnSet
set_option linter.unusedVariables false
set_option linter.unusedSimpArgs false
set_option maxHeartbeats 4000000
set_option maxRecDepth 100000
namespace Go.Proofs.YtlnjaagijaadmaaGreatDoor
open Go.Proofs.Tryz
open Go.RowKit
theorem z3p.kw {w w':zW}(h:z3p w w')(B:Nat):Below B w w':=by
 obtain⟨n,rfl⟩:=h;exact below_drewN (Zb _ _) n
theorem z3s (a b:zA)(w:zW)(ha:a.size<=140737488355328)(hb:b.size<=140737488355328):
  Calls prog 124 #[zS a,zS b] w fun e w'=>e=.returned (zI (z30 a b))/\z3p w w':=by
 have H:=hd_ (z3r a b w ha hb);go_enter func124,ntmps124;go_wp2_with fail;refine H.mono ?_;rintro e w' ⟨rfl,hq⟩;have HQ:=hd_ hq;clear hq;go_wp2_with fail;go_ret;exact⟨rfl,HQ⟩
theorem z3t {p q:Prop}(h:p)(hq:p->q):p/\q:=⟨h,hq h⟩
def Rcd.small (r:Rcd):Prop:=r.frm.size<=140737488355328/\r.to.size<=140737488355328
theorem z3u {α:Type}(f:α->List zV)(n:Nat)(hf:∀ x,(f x).length=n)(l:List α):(l.flatMap f).length=l.length * n:=by
 induction l with
 | nil=>simp
 | cons x l ih=>simp only[ZG,Zc,ih,hf,Zz,Nat.succ_mul];omega
theorem z3v {α:Type}(f:α->List zV)(n:Nat)(hf:∀ x,(f x).length=n)(l:List α)(k j:Nat)(hk:k<l.length)(hj:j<n):(l.flatMap f)[k * n+j]? = (f l[k])[j]?:=by
 induction l generalizing k with
 | nil=>simp at hk
 | cons x l ih =>
  simp only[ZG]
  cases k with
  | zero=>rw[List.getElem?_append_left (by rw[hf];omega)];simp
  | succ k =>
   rw[List.getElem?_append_right (by rw[hf,Nat.succ_mul];omega),hf,show (k+1) * n+j - n=k * n+j by rw[Nat.succ_mul];omega]
   simpa using ih k (by simpa using hk)
def z3w (w:zW)(v:zV)(l:List Rev):Prop:=Row w 12 v l.length (l.flatMap Rev.cells)
def z3x (w:zW)(v:zV)(l:List Edt):Prop:=Row w 12 v l.length (l.flatMap Edt.cells)
def z3y (w:zW)(v:zV)(l:List Rcd):Prop:=Row w 6 v l.length (l.flatMap Rcd.cells)
section
variable {w w' : zW} {v : zV}
theorem z3w.kw {l:List Rev}(h:z3w w v l)(hb:zB w w'):z3w w' v l:=Row.kw h hb
theorem z3x.kw {l:List Edt}(h:z3x w v l)(hb:zB w w'):z3x w' v l:=Row.kw h hb
theorem z3y.kw {l:List Rcd}(h:z3y w v l)(hb:zB w w'):z3y w' v l:=Row.kw h hb
theorem z3w.keep {l:List Rev}(h:z3w w v l)(hs:w.heap.size<=w'.heap.size)(hk:∀ p:Addr,p.block<w.heap.size->w'.cell? p=w.cell? p):z3w w' v l:=Row.keep h hs hk
theorem z3w.nil_ (w:zW):z3w w (zL none 0 0) []:=Row.nil_ w 12
theorem z3y.nil_ (w:zW):z3y w (zL none 0 0) []:=Row.nil_ w 6
end
theorem z3z {α:Type}{f:α->List zV}{n:Nat}(hf:∀ x,(f x).length=n){w:zW}{A:zP}{c:Nat}{l:List α}(h:Row w n (zL A l.length c) l.length (l.flatMap f)){k:Nat}(hk:k<l.length):
  ∃ ad,A=some ad/\ad.block<w.heap.size/\∀ j v,(f l[k])[j]? = some v->w.cell? (if j=0 then ad.add (k * n) else ⟨(ad.add (k * n)).block,(ad.add (k * n)).off+j,none⟩)=some v:=by
 obtain⟨ad,e,hb,hc⟩:=Row.at_ h hk;refine⟨ad,e,hb,fun j v hv=>?_⟩;have hj:j<n:=by rw[<- hf l[k]];exact (ZR.1 hv).1
 have:=hc j v (by rw[z3v f n hf l k j hk hj];exact hv)
 cases j with
 | zero=>simpa using this
 | succ j=>rw[if_neg (by omega),z02,z01];exact this
def RevAt (w:zW)(a:Addr)(x:Rev):Prop:=w.cell? a=some (zS x.kt)/\w.cell? ⟨a.block,a.off+1,none⟩=some (zI x.num)/\w.cell? ⟨a.block,a.off+2,none⟩=some (zI x.chg)/\w.cell? ⟨a.block,a.off+3,none⟩=some (zI x.act)/\w.cell? ⟨a.block,a.off+4,none⟩=some (zI x.ty.base)/\w.cell? ⟨a.block,a.off+5,none⟩=some (.bool x.ty.k)/\w.cell? ⟨a.block,a.off+6,none⟩=some (.bool x.ty.l)/\w.cell? ⟨a.block,a.off+7,none⟩=some (.bool x.ty.x)/\w.cell? ⟨a.block,a.off+8,none⟩=some (.int .u64 x.sum)/\w.cell? ⟨a.block,a.off+9,none⟩=some (zI x.size)/\w.cell? ⟨a.block,a.off+10,none⟩=some (zS x.frm)/\w.cell? ⟨a.block,a.off+11,none⟩=some (zI x.fnum)
theorem z3w.at_ {w:zW}{A:zP}{c:Nat}{l:List Rev}(h:z3w w (zL A l.length c) l){k:Nat}(hk:k<l.length):
  ∃ ad,A=some ad/\ad.block<w.heap.size/\RevAt w (ad.add (k * 12)) l[k]:=by
 obtain⟨ad,e,hb,hc⟩:=z3z (f:=Rev.cells) (n:=12) (fun _=>rfl) h hk;exact⟨ad,e,hb,hc 0 _ rfl,hc 1 _ rfl,hc 2 _ rfl,hc 3 _ rfl,hc 4 _ rfl,hc 5 _ rfl,hc 6 _ rfl,hc 7 _ rfl,hc 8 _ rfl,hc 9 _ rfl,hc 10 _ rfl,hc 11 _ rfl⟩
def EdtAt (w:zW)(a:Addr)(x:Edt):Prop:=w.cell? a=some (zS x.kt)/\w.cell? ⟨a.block,a.off+1,none⟩=some (zI x.act)/\w.cell? ⟨a.block,a.off+2,none⟩=some (zI x.ty.base)/\w.cell? ⟨a.block,a.off+3,none⟩=some (.bool x.ty.k)/\w.cell? ⟨a.block,a.off+4,none⟩=some (.bool x.ty.l)/\w.cell? ⟨a.block,a.off+5,none⟩=some (.bool x.ty.x)/\w.cell? ⟨a.block,a.off+6,none⟩=some (.int .u64 x.sum)/\w.cell? ⟨a.block,a.off+7,none⟩=some (zI x.size)/\w.cell? ⟨a.block,a.off+8,none⟩=some (zI x.base)/\w.cell? ⟨a.block,a.off+9,none⟩=some (zS x.frm)/\w.cell? ⟨a.block,a.off+10,none⟩=some (zI x.fnum)/\w.cell? ⟨a.block,a.off+11,none⟩=some (zI x.fence)
theorem z3x.at_ {w:zW}{A:zP}{c:Nat}{l:List Edt}(h:z3x w (zL A l.length c) l){k:Nat}(hk:k<l.length):
  ∃ ad,A=some ad/\ad.block<w.heap.size/\EdtAt w (ad.add (k * 12)) l[k]:=by
 obtain⟨ad,e,hb,hc⟩:=z3z (f:=Edt.cells) (n:=12) (fun _=>rfl) h hk;exact⟨ad,e,hb,hc 0 _ rfl,hc 1 _ rfl,hc 2 _ rfl,hc 3 _ rfl,hc 4 _ rfl,hc 5 _ rfl,hc 6 _ rfl,hc 7 _ rfl,hc 8 _ rfl,hc 9 _ rfl,hc 10 _ rfl,hc 11 _ rfl⟩
def RcdAt (w:zW)(a:Addr)(x:Rcd):Prop:=w.cell? a=some (zS x.frm)/\w.cell? ⟨a.block,a.off+1,none⟩=some (zI x.first)/\w.cell? ⟨a.block,a.off+2,none⟩=some (zI x.last)/\w.cell? ⟨a.block,a.off+3,none⟩=some (zS x.to)/\w.cell? ⟨a.block,a.off+4,none⟩=some (zI x.num)/\w.cell? ⟨a.block,a.off+5,none⟩=some (zI x.how)
theorem z3y.at_ {w:zW}{A:zP}{c:Nat}{l:List Rcd}(h:z3y w (zL A l.length c) l){k:Nat}(hk:k<l.length):
  ∃ ad,A=some ad/\ad.block<w.heap.size/\RcdAt w (ad.add (k * 6)) l[k]:=by
 obtain⟨ad,e,hb,hc⟩:=z3z (f:=Rcd.cells) (n:=6) (fun _=>rfl) h hk;exact⟨ad,e,hb,hc 0 _ rfl,hc 1 _ rfl,hc 2 _ rfl,hc 3 _ rfl,hc 4 _ rfl,hc 5 _ rfl⟩
def Chk (w:zW)(g:Nat)(dv dr:zV)(n:Int)(cl tx:zA)(ev rv:zV)(bl be bn:Nat):Prop:=
 Blk w g 186 [dv,dr,zI n,zS cl,zS tx,ev,rv,.map (some bl),.map (some be),.map (some bn)]
theorem z40 {w:zW}{g:Nat}{dv dr ev rv:zV}{n:Int}{cl tx:zA}{bl be bn:Nat}(h:Chk w g dv dr n cl tx ev rv bl be bn):
  w.cell? ⟨g,0,none⟩=some dv/\w.cell? ⟨g,1,none⟩=some dr/\w.cell? ⟨g,2,none⟩=some (zI n)/\w.cell? ⟨g,5,none⟩=some ev/\w.cell? ⟨g,6,none⟩=some rv /\
  w.cell? ⟨g,7,none⟩=some (.map (some bl))/\w.cell? ⟨g,8,none⟩=some (.map (some be))/\w.cell? ⟨g,9,none⟩=some (.map (some bn)):=
 ⟨Blk.cell h 0,Blk.cell h 1,Blk.cell h 2,Blk.cell h 5,Blk.cell h 6,Blk.cell h 7,Blk.cell h 8,Blk.cell h 9⟩
section
variable {κ α : Type} [BEq κ] {P : Program} {k : TypeId} {kv : κ -> zV} {enc : α -> zV} {w w' : zW} {B : Nat} {f : κ -> Option α}
def z44 (kv:κ->zV)(enc:α->zV)(w:zW)(B:Nat)(f:κ->Option α):Prop:=∃ m:List (κ×zV),z23 kv w B m/\(m.map (·.1)).Nodup/\∀ x,z1v m x=(f x).map enc
theorem z44.fmap (h:z44 kv enc w B f):z2l kv enc w B f:=by obtain⟨m,h,-,r⟩:=h;exact⟨m,h,r⟩
theorem z44.lt (h:z44 kv enc w B f):B<w.heap.size:=h.fmap.lt
theorem z44.keep (h:z44 kv enc w B f)(hk:w'.heap[B]? = w.heap[B]?):z44 kv enc w' B f:=by obtain⟨m,h,n,r⟩:=h;exact⟨m,h.keep hk,n,r⟩
theorem z44.kw (h:z44 kv enc w B f)(hb:zB w w'):z44 kv enc w' B f:=by obtain⟨m,h,n,r⟩:=h;exact⟨m,h.kw hb,n,r⟩
theorem z44.new (kv:κ->zV)(enc:α->zV)(w:zW):z44 kv enc (w.alloc (.map #[] 0)) w.heap.size (fun _=>none):=⟨[],z23.new kv w,List.nodup_nil,fun _=>rfl⟩
theorem z45 [LawfulBEq κ](k:κ)(v:zV):∀(m:List (κ×zV)) (x:κ),x∈(z1w m k v).map (·.1)->x=k\/x∈m.map (·.1)
 | [],x,h=>by simp [z1w] at h;exact .inl h
 | p :: m,x,h=>by
  by_cases hk:(k == p.1)=true
  ·have e:k=p.1:=eq_of_beq hk;simp only[z1w,hk,if_true,ZN,Zn] at h |-
   rcases h with h | h
   ·exact .inl h
   ·exact .inr (.inr h)
  ·simp only[z1w,hk,if_false,ZN,Zn,Bool.false_eq_true] at h |-
   rcases h with h | h
   ·exact .inr (.inl h)
   ·rcases z45 k v m x h with h | h
    ·exact .inl h
    ·exact .inr (.inr h)
theorem z47 [LawfulBEq κ](k:κ)(v:zV):∀(m:List (κ×zV)),(m.map (·.1)).Nodup->((z1w m k v).map (·.1)).Nodup
 | [],_=>by simp [z1w]
 | p :: m,h=>by
  rw[ZN,List.nodup_cons] at h;by_cases hk:(k == p.1)=true
  ·have e:k=p.1:=eq_of_beq hk;simp only[z1w,hk,if_true,ZN]
   rw[e,List.nodup_cons];exact h
  ·have hne:¬ k=p.1:=fun e=>hk (by rw[e];exact beq_self_eq_true _)
   simp only[z1w,hk,if_false,ZN,Bool.false_eq_true]
   rw[List.nodup_cons];refine⟨fun hx=>?_,z47 k v m h.2⟩;rcases z45 k v m p.1 hx with e | e
   ·exact hne e.symm
   ·exact h.1 e
theorem z44.update [LawfulBEq κ][DecidableEq κ](h:z44 kv enc w B f)(K:z1y P k kv){t e:TypeId}(ht:P.underlying t=some (.map k e))(x:κ)(v:α):
  ∃ w',(Instr.mapUpdate t (.map (some B)) (kv x) (enc v)).run P w=.ok () w'/\z44 kv enc w' B (upd f x v)/\w.grownBy w' (some B)/\w'.heap.size=w.heap.size:=by
 obtain⟨m,h,n,r⟩:=h;obtain⟨w',h1,h2,h3,h4⟩:=h.update K ht x (enc v);refine⟨w',h1,⟨_,h2,z47 _ _ _ n,fun y=>?_⟩,h3,h4⟩;rw[z2m];unfold upd;by_cases e:y=x
 ·rw[if_pos e,if_pos e];rfl
 ·rw[if_neg e,if_neg e];exact r y
end
open Go.RowKit Go.Lib
open Go.Sort hiding Below
section
variable {α : Type} [Inhabited α]
end
section
variable {α : Type}
structure z6s (c:α->α->Int):Prop where
 self:∀ x,c x x=0
 anti:∀ x y,c y x=- c x y
 trans:∀ x y z,c x y<0->c y z<0->c x z<0
 same:∀ x y,c x y=0->∀ z,c x z=c y z
theorem z6s.same' {c:α->α->Int}(h:z6s c){x y:α}(he:c x y=0)(z:α):c z x=c z y:=by rw[h.anti x z,h.anti y z,h.same x y he]
theorem z6s.or {c1 c2:α->α->Int}(h1:z6s c1)(h2:z6s c2):z6s (fun x y=>orI (c1 x y) (c2 x y)) where
 self x:=by unfold orI;rw[h1.self,if_pos rfl,h2.self]
 anti x y:=by unfold orI;rw[h1.anti x y,h2.anti x y];split <;> split <;> omega
 trans x y z a b:=by
  unfold orI at a b |-
  by_cases e1:c1 x y=0
  ·rw[if_pos e1] at a;rw[h1.same x y e1 z];by_cases e2:c1 y z=0
   ·rw[if_pos e2] at b |-;exact h2.trans _ _ _ a b
   ·rw[if_neg e2] at b |-;exact b
  ·rw[if_neg e1] at a;by_cases e2:c1 y z=0
   ·rw[<- h1.same' e2 x];rw[if_neg e1];exact a
   ·rw[if_neg e2] at b;have:=h1.trans _ _ _ a b;rw[if_neg (by omega)];exact this
 same x y e z:=by
  unfold orI at e |-
  by_cases e1:c1 x y=0
  ·rw[if_pos e1] at e;rw[h1.same x y e1 z,h2.same x y e z]
  ·rw[if_neg e1] at e;exact absurd e e1
theorem z6s.swo {c:α->α->Int}(h:z6s c):SWO (ltOf c) where
 irrefl x:=by unfold ltOf;rw[h.self];rfl
 trans x y z a b:=by unfold ltOf at *;simp only[decide_eq_true_eq] at *;exact h.trans _ _ _ a b
 ntrans x y z a b:=by
  unfold ltOf at *
  simp only[decide_eq_false_iff_not,Int.not_lt] at *
  have a':=h.anti x y;have b':=h.anti y z;have c':=h.anti x z;by_cases e1:c x y=0
  ·rw[h.same x y e1 z];exact b
  ·by_cases e2:c y z=0
   ·rw[<- h.same' e2 x];exact a
   ·have:=h.trans z y x (by omega) (by omega);omega
theorem z6t (a b:zA):z30 b a=- z30 a b:=by
 unfold z30;by_cases h:(z2y a && z2y b)=true
 ·rw[if_pos h,if_pos (by rw[Bool.and_comm];exact h)];exact z6m _ _
 ·rw[if_neg h,if_neg (by rw[Bool.and_comm];exact h)];rfl
theorem z6u {a b:zA}(ha:z2y a=true)(hb:z2y b=true)(h:z30 a b=0):a=b:=by
 rw[z6p ha hb] at h;have:=cmpL_eq h;cases a with | mk x=>cases b with | mk y=>exact congrArg ByteArray.mk (Array.toList_inj.1 this)
theorem totP {f:α->zA}(hf:∀ x,z2y (f x)=true):z6s (fun x y=>z30 (f x) (f y)) where
 self x:=z6q _
 anti x y:=z6t _ _
 trans x y z a b:=z6r (hf _) (hf _) (hf _) a b
 same x y e z:=by rw[z6u (hf x) (hf y) e]
end
def Rcd.good (r:Rcd):Prop:=r.small/\z2y r.frm=true/\z2y r.to=true
abbrev z6v:={ r:Rcd // r.good }
def z6w:zA:=⟨#[47,47,97,47,98]⟩
theorem z6x:z2y z6w=true:=by decide
instance:Inhabited z6v:=⟨⟨⟨z6w,0,0,z6w,0,0⟩,⟨by unfold z6w;decide,by unfold z6w;decide⟩,z6x,z6x⟩⟩
def z6v.enc (r:z6v):List zV:=r.1.cells
def z6v.cmp (a b:z6v):Int:=ztj a.1 b.1
theorem z6y (v cv:zV)(w:zW):Calls prog 177 #[v,zI 0,zI 0,cv] w fun e w'=>e=.returned (.tuple #[])/\w=w':=by
 go_enter func177,ntmps177;go_wp2
 refine wp_loop_rounds 1 ?_;rw[rounds_succ];go_wp2
 go_end0
 exact⟨rfl,rfl⟩
theorem z6z (v cv:zV)(w:zW):Calls prog 122 #[v,zI 0,cv] w fun e w'=>e=.returned (.tuple #[])/\w=w':=by
 have H:=hd_ (z6y v cv w);go_enter func122,ntmps122;go_wp2
 refine wp_loop_rounds 1 ?_;rw[rounds_succ];go_wp2_with fail;refine H.mono ?_;rintro e w' ⟨rfl,rfl⟩;go_wp2
 refine wp_loop_rounds 1 ?_;rw[rounds_succ];go_wp2
 go_end0
 exact⟨rfl,rfl⟩
theorem zac:z0e prog 29 9 1 16:=z0f underlying29 (z:=zS ⟨#[]⟩) (by kernel_rfl) rfl (by decide)
def zad (l:List zA)(j:Nat):zA:=(l[j]?).getD z2r
def zae (cs:List (List UInt8))(j:Nat):zA:=baL ((cs[j]?).getD [])
def zaf (parts:List zA)(cs:List (List UInt8))(k:Nat):Bool:=(List.range k).all fun j=>za7 (zad parts j) (zae cs j)
def zag (parts:List zA)(cs:List (List UInt8)):Nat->List zA
 | 0=>[]
 | k+1=>zag parts cs k++(if z8r (zad parts k) then [za6 (zad parts k) (zae cs k)] else [])
def zah (p:Pat)(cs:List (List UInt8)):Bool:=decide (p.kp.length<=cs.length) && (decide (p.kp.length<cs.length) == p.kr)
def zai (p:Pat)(cs:List (List UInt8)):List zA:=zag p.kp cs p.kp.length++(if p.kr then [baL (Lib.join (cs.drop p.kp.length) [47])] else [])
def zaj (p:Pat)(s:zA):Option (List zA):=
 match z2w s.data.toList 2 with
 | none=>none
 | some cs=>if z8w p=0/\zah p cs=true/\zaf p.kp cs p.kp.length=true then some (zai p cs) else none
theorem zak {parts:List zA}{cs:List (List UInt8)}{k:Nat}:zaf parts cs (k+1)=(zaf parts cs k && za7 (zad parts k) (zae cs k)):=by
 unfold zaf;rw[List.range_succ,List.all_append];simp
theorem zal {parts:List zA}{cs:List (List UInt8)}{k n:Nat}(hk:k<n)(h:za7 (zad parts k) (zae cs k)=false):zaf parts cs n=false:=by
 unfold zaf;rw[List.all_eq_false];exact⟨k,List.mem_range.2 hk,by rw[h];simp⟩
def zam (w:zW)(p:Pat)(s:zA)(e:Ending)(w':zW):Prop:=∃ A n c,e=.returned (.tuple #[zL A n c,.bool (zaj p s).isSome])/\zB w w'/\∀ l,zaj p s=some l->n=l.length/\z20 w' (zL A n c) l
theorem zan (s:zA)(w:zW)(he:Env w)(hs:s.size<=2000000):
  Calls prog 107 #[zS s] w fun e w'=>(z2w s.data.toList 2=none/\e=.returned (.tuple #[zL none 0 0,.bool false])/\zB w w')\/∃ cs,z2w s.data.toList 2=some cs/\e=.returned (.tuple #[zL (some ⟨w.heap.size,0,none⟩) cs.length cs.length,.bool true])/\w.alloc (.cells (z9a cs).toArray 9)=w':=by
 cases hd:z2w s.data.toList 2 with
 | none =>
  have H:=hd_ (z9j s w he hs hd);clear hd he;go_enter func107,ntmps107;go_wp2_with fail;refine H.mono ?_;rintro e w' ⟨rfl,hb⟩;have HB:=hd_ hb;clear hb;go_wp2_with fail;go_ret2;exact .inl ⟨by first | rfl | trivial,rfl,HB⟩
 | some cs =>
  have H:=hd_ (z9i s cs w he hs hd);clear hd he;generalize hW:w.alloc (.cells (z9a cs).toArray 9)=W at H;have HW:=hd_ hW;clear hW;go_enter func107,ntmps107;go_wp2_with fail;refine H.mono ?_;rintro e w' ⟨rfl,rfl⟩;go_wp2_with fail;go_ret2;exact .inr ⟨cs,rfl,rfl,HW⟩
theorem zez (f:zA->Option Rev)(p:zA):z33 f p=((f p).isSome && z32 (z34 f p).act):=by
 unfold z33 z34;cases f p <;> rfl
theorem zf0 {w:zW}{g:Nat}{e:TypeId}{a0 a1 a2 a3 a4 a5 a6 a7 a8 a9 a10 a11:zV}(h:Blk w g e [a0,a1,a2,a3,a4,a5,a6,a7,a8,a9,a10,a11]):
  w.frozen? ⟨g,0,none⟩=false/\w.frozen? ⟨g,1,none⟩=false/\w.frozen? ⟨g,2,none⟩=false/\w.frozen? ⟨g,3,none⟩=false/\w.frozen? ⟨g,4,none⟩=false/\w.frozen? ⟨g,5,none⟩=false /\
  w.frozen? ⟨g,6,none⟩=false/\w.frozen? ⟨g,7,none⟩=false/\w.frozen? ⟨g,8,none⟩=false/\w.frozen? ⟨g,9,none⟩=false/\w.frozen? ⟨g,10,none⟩=false/\w.frozen? ⟨g,11,none⟩=false:=
 ⟨h.frozen 0,h.frozen 1,h.frozen 2,h.frozen 3,h.frozen 4,h.frozen 5,h.frozen 6,h.frozen 7,h.frozen 8,h.frozen 9,h.frozen 10,h.frozen 11⟩
theorem zf1 {w:zW}{g:Nat}{e:TypeId}{a0 a1 a2 a3 a4 a5 a6 a7 a8 a9 a10 a11:zV}(h:Blk w g e [a0,a1,a2,a3,a4,a5,a6,a7,a8,a9,a10,a11])(r:Rev):
  Blk ((((((((((((w.setCell ⟨g,0,none⟩ (zS r.kt)).setCell ⟨g,1,none⟩ (zI r.num)).setCell ⟨g,2,none⟩ (zI r.chg)).setCell ⟨g,3,none⟩ (zI r.act)).setCell ⟨g,4,none⟩ (zI r.ty.base)).setCell ⟨g,5,none⟩ (.bool r.ty.k)).setCell ⟨g,6,none⟩ (.bool r.ty.l)).setCell ⟨g,7,none⟩ (.bool r.ty.x)).setCell ⟨g,8,none⟩ (.int .u64 r.sum)).setCell ⟨g,9,none⟩ (zI r.size)).setCell ⟨g,10,none⟩ (zS r.frm)).setCell ⟨g,11,none⟩ (zI r.fnum)) g e [zS r.kt,zI r.num,zI r.chg,zI r.act,zI r.ty.base,.bool r.ty.k,.bool r.ty.l,.bool r.ty.x,.int .u64 r.sum,zI r.size,zS r.frm,zI r.fnum]:=
 ((((((((((((h.set_ 0 _).set_ 1 _).set_ 2 _).set_ 3 _).set_ 4 _).set_ 5 _).set_ 6 _).set_ 7 _).set_ 8 _).set_ 9 _).set_ 10 _).set_ 11 _)
theorem zf2 {B:Nat}{w0 w:zW}{g:Nat}(h:Below B w0 w)(hg:B<=g)(r:Rev):Below B w0 ((((((((((((w.setCell ⟨g,0,none⟩ (zS r.kt)).setCell ⟨g,1,none⟩ (zI r.num)).setCell ⟨g,2,none⟩ (zI r.chg)).setCell ⟨g,3,none⟩ (zI r.act)).setCell ⟨g,4,none⟩ (zI r.ty.base)).setCell ⟨g,5,none⟩ (.bool r.ty.k)).setCell ⟨g,6,none⟩ (.bool r.ty.l)).setCell ⟨g,7,none⟩ (.bool r.ty.x)).setCell ⟨g,8,none⟩ (.int .u64 r.sum)).setCell ⟨g,9,none⟩ (zI r.size)).setCell ⟨g,10,none⟩ (zS r.frm)).setCell ⟨g,11,none⟩ (zI r.fnum)):=
 ((((((((((((h.setCell hg _).setCell hg _).setCell hg _).setCell hg _).setCell hg _).setCell hg _).setCell hg _).setCell hg _).setCell hg _).setCell hg _).setCell hg _).setCell hg _)
theorem zf3 (f:zA->Option Rev)(p:zA)(g:Nat)(dv dr ev rv:zV)(n:Int)(cl tx:zA)(bl be bn:Nat)(w:zW)(hk:Chk w g dv dr n cl tx ev rv bl be bn)(hL:z4x w bl f):
  Calls prog 210 #[.pointer (some ⟨g,0,none⟩),zS p] w
   fun e w'=>e=.returned (.tuple #[.agg #[zS (z34 f p).kt,zI (z34 f p).num,zI (z34 f p).chg,zI (z34 f p).act,zI (z34 f p).ty.base,.bool (z34 f p).ty.k,.bool (z34 f p).ty.l,.bool (z34 f p).ty.x,.int .u64 (z34 f p).sum,zI (z34 f p).size,zS (z34 f p).frm,zI (z34 f p).fnum],.bool (z33 f p)])/\zB w w':=by
 have hbW:zB w (w.alloc (zC #[zS ⟨#[]⟩,zI 0,zI 0,zI 0,zI 0,.bool false,.bool false,.bool false,.int .u64 0,zI 0,zS ⟨#[]⟩,zI 0] 78)):=zR;have hK:Chk (w.alloc (zC #[zS ⟨#[]⟩,zI 0,zI 0,zI 0,zI 0,.bool false,.bool false,.bool false,.int .u64 0,zI 0,zS ⟨#[]⟩,zI 0] 78)) g dv dr n cl tx ev rv bl be bn:=Blk.kw hk hbW (Blk.lt hk);have hlk:=z4x.look2 (w:=w.alloc (zC #[zS ⟨#[]⟩,zI 0,zI 0,zI 0,zI 0,.bool false,.bool false,.bool false,.int .u64 0,zI 0,zS ⟨#[]⟩,zI 0] 78)) (z2l.kw hL hbW) p;obtain⟨-,-,-,-,-,k7,-,-⟩:=z40 hK;clear hK;have HL:=hd_ (zez f p);have hgl:=Blk.lt hk;generalize z34 f p=r at hlk HL |-;generalize (f p).isSome=b at hlk HL;obtain⟨W,hW⟩:∃ W,W=(w.alloc (zC #[zS ⟨#[]⟩,zI 0,zI 0,zI 0,zI 0,.bool false,.bool false,.bool false,.int .u64 0,zI 0,zS ⟨#[]⟩,zI 0] 78)).alloc (zC #[zS r.kt,zI r.num,zI r.chg,zI r.act,zI r.ty.base,.bool r.ty.k,.bool r.ty.l,.bool r.ty.x,.int .u64 r.sum,zI r.size,zS r.frm,zI r.fnum] 78):=⟨_,rfl⟩;have hbW2:zB w W:=by rw[hW];exact hbW.alloc hbW.size _
 have hZ:Blk W w.heap.size 78 [zS ⟨#[]⟩,zI 0,zI 0,zI 0,zI 0,.bool false,.bool false,.bool false,.int .u64 0,zI 0,zS ⟨#[]⟩,zI 0]:=by rw[hW];exact (z0l w _ _).alloc _
 have hR:Blk W (w.heap.size+1) 78 [zS r.kt,zI r.num,zI r.chg,zI r.act,zI r.ty.base,.bool r.ty.k,.bool r.ty.l,.bool r.ty.x,.int .u64 r.sum,zI r.size,zS r.frm,zI r.fnum]:=by
  rw[hW];have:=z0l (w.alloc (zC #[zS ⟨#[]⟩,zI 0,zI 0,zI 0,zI 0,.bool false,.bool false,.bool false,.int .u64 0,zI 0,zS ⟨#[]⟩,zI 0] 78)) [zS r.kt,zI r.num,zI r.chg,zI r.act,zI r.ty.base,.bool r.ty.k,.bool r.ty.l,.bool r.ty.x,.int .u64 r.sum,zI r.size,zS r.frm,zI r.fnum] 78;simpa using this
 have HW:=hd_ hW;clear hW;obtain⟨c0,c1,c2,c3,c4,c5,c6,c7,c8,c9,c10,c11⟩:=z57 hR;obtain⟨z0,z1,z2,z3,z4,z5,z6,z7,z8,z9,z10,z11⟩:=z57 hZ;obtain⟨y0,y1,y2,y3,y4,y5,y6,y7,y8,y9,y10,y11⟩:=zf0 hZ;cases b
 ·go_enter func210,ntmps210;go_wp2_with fail;rw[<- HW.out];clear hlk k7 hbW;go_region
  have hZ2:=zf1 hZ r;have hB2:=zf2 hbW2 (Zd w.heap.size) r;generalize ((((((((((((W.setCell ⟨w.heap.size,0,none⟩ (zS r.kt)).setCell ⟨w.heap.size,1,none⟩ (zI r.num)).setCell ⟨w.heap.size,2,none⟩ (zI r.chg)).setCell ⟨w.heap.size,3,none⟩ (zI r.act)).setCell ⟨w.heap.size,4,none⟩ (zI r.ty.base)).setCell ⟨w.heap.size,5,none⟩ (.bool r.ty.k)).setCell ⟨w.heap.size,6,none⟩ (.bool r.ty.l)).setCell ⟨w.heap.size,7,none⟩ (.bool r.ty.x)).setCell ⟨w.heap.size,8,none⟩ (.int .u64 r.sum)).setCell ⟨w.heap.size,9,none⟩ (zI r.size)).setCell ⟨w.heap.size,10,none⟩ (zS r.frm)).setCell ⟨w.heap.size,11,none⟩ (zI r.fnum))=W3 at hZ2 hB2 |-;go_wp2_with fail;obtain⟨e0,e1,e2,e3,e4,e5,e6,e7,e8,e9,e10,e11⟩:=z57 hZ2;refine bodyPost_ret (v:=.tuple #[.agg #[zS r.kt,zI r.num,zI r.chg,zI r.act,zI r.ty.base,.bool r.ty.k,.bool r.ty.l,.bool r.ty.x,.int .u64 r.sum,zI r.size,zS r.frm,zI r.fnum],.bool false]) (by simp [results,results210,go_sem,e0,e1,e2,e3,e4,e5,e6,e7,e8,e9,e10,e11]) rfl ⟨?_,hB2.drew⟩
  rw[HL.out];rfl
 ·go_enter func210,ntmps210;go_wp2_with fail;rw[<- HW.out];clear hlk k7 hbW;go_region_with (go_at_call 212;refine (z3l _ _).mono ?_;rintro e w' ⟨rfl,rfl⟩)
  all_goals
   have hZ2:=zf1 hZ r;have hB2:=zf2 hbW2 (Zd w.heap.size) r;generalize ((((((((((((W.setCell ⟨w.heap.size,0,none⟩ (zS r.kt)).setCell ⟨w.heap.size,1,none⟩ (zI r.num)).setCell ⟨w.heap.size,2,none⟩ (zI r.chg)).setCell ⟨w.heap.size,3,none⟩ (zI r.act)).setCell ⟨w.heap.size,4,none⟩ (zI r.ty.base)).setCell ⟨w.heap.size,5,none⟩ (.bool r.ty.k)).setCell ⟨w.heap.size,6,none⟩ (.bool r.ty.l)).setCell ⟨w.heap.size,7,none⟩ (.bool r.ty.x)).setCell ⟨w.heap.size,8,none⟩ (.int .u64 r.sum)).setCell ⟨w.heap.size,9,none⟩ (zI r.size)).setCell ⟨w.heap.size,10,none⟩ (zS r.frm)).setCell ⟨w.heap.size,11,none⟩ (zI r.fnum))=W3 at hZ2 hB2 |-;go_wp2_with fail;obtain⟨e0,e1,e2,e3,e4,e5,e6,e7,e8,e9,e10,e11⟩:=z57 hZ2;refine bodyPost_ret (v:=.tuple #[.agg #[zS r.kt,zI r.num,zI r.chg,zI r.act,zI r.ty.base,.bool r.ty.k,.bool r.ty.l,.bool r.ty.x,.int .u64 r.sum,zI r.size,zS r.frm,zI r.fnum],.bool (z32 r.act)]) (by simp [results,results210,go_sem,e0,e1,e2,e3,e4,e5,e6,e7,e8,e9,e10,e11]) rfl ⟨?_,hB2.drew⟩
   rw[HL.out];rfl
def zf6 (q:zA)(p:Rev->Bool)(o:Option Rev)(r:Rev):Option Rev:=
 if r.kt=q/\p r=true then (match o with
  | none=>some r
  | some b=>if b.num<r.num then some r else some b) else o
theorem zf7 (revs:List Rev)(q:zA)(p:Rev->Bool):z38 revs q p=revs.foldl (zf6 q p) none:=rfl
def zf8 (o:Option Rev):Rev:=o.getD z2s
theorem zwn {w:zW}{g g':Nat}{e:TypeId}{cs:List zV}(h:Blk w g' e cs)(hg:g≠g')(r:Rev):Blk ((((((((((((w.setCell ⟨g,0,none⟩ (zS r.kt)).setCell ⟨g,1,none⟩ (zI r.num)).setCell ⟨g,2,none⟩ (zI r.chg)).setCell ⟨g,3,none⟩ (zI r.act)).setCell ⟨g,4,none⟩ (zI r.ty.base)).setCell ⟨g,5,none⟩ (.bool r.ty.k)).setCell ⟨g,6,none⟩ (.bool r.ty.l)).setCell ⟨g,7,none⟩ (.bool r.ty.x)).setCell ⟨g,8,none⟩ (.int .u64 r.sum)).setCell ⟨g,9,none⟩ (zI r.size)).setCell ⟨g,10,none⟩ (zS r.frm)).setCell ⟨g,11,none⟩ (zI r.fnum)) g' e cs:=
 ((((((((((((h.far (p:=⟨g,0,none⟩) hg _).far (p:=⟨g,1,none⟩) hg _).far (p:=⟨g,2,none⟩) hg _).far (p:=⟨g,3,none⟩) hg _).far (p:=⟨g,4,none⟩) hg _).far (p:=⟨g,5,none⟩) hg _).far (p:=⟨g,6,none⟩) hg _).far (p:=⟨g,7,none⟩) hg _).far (p:=⟨g,8,none⟩) hg _).far (p:=⟨g,9,none⟩) hg _).far (p:=⟨g,10,none⟩) hg _).far (p:=⟨g,11,none⟩) hg _)
def zf9 (revs:List Rev)(p:zA):List Rev:=revs.filter fun r=>decide (r.kt=p)
theorem zfa {revs:List Rev}{p:zA}{v:Rev}:v∈zf9 revs p↔v∈revs/\v.kt=p:=by
 unfold zf9;simp
theorem zfb (a b:List Rev)(p:zA):zf9 (a++b) p=zf9 a p++zf9 b p:=by unfold zf9;rw[List.filter_append]
def zfc (D:List Rev)(p:zA):Option Rev:=(zf9 D p).getLast?
theorem zfd:z0e prog 24 78 12 96:=z0f underlying24 (z:=z2s.val) (by kernel_rfl) rfl (by decide)
theorem zfe:z0e prog 25 140 6 64:=z0f underlying25 (z:=.agg #[zS ⟨#[]⟩,zI 0,zI 0,zS ⟨#[]⟩,zI 0,zI 0]) (by kernel_rfl) rfl (by decide)
def atM (m:Int)(o v:Rev):Rev:=if v.chg<=m then v else o
def rAt (D:List Rev)(p:zA)(m:Int):Rev:=(zf9 D p).foldl (atM m) z2s
def gS (p:zA)(f:Rev->Bool)(o:Option Rev)(r:Rev):Option Rev:=if r.kt=p/\f r=true then (match o with
  | none=>some r
  | some b=>if b.num<r.num then some r else some b) else o
theorem zfm (D:List Rev)(p:zA)(f:Rev->Bool):z38 D p f=D.foldl (gS p f) none:=rfl
theorem gS_far {p:zA}{f:Rev->Bool}{o:Option Rev}{r:Rev}(h:¬(r.kt=p/\f r=true)):gS p f o r=o:=if_neg h
theorem gS_more {p:zA}{f:Rev->Bool}{o:Option Rev}{r:Rev}(h:r.kt=p/\f r=true)(ho:∀ b,o=some b->b.num<r.num):gS p f o r=some r:=by
 unfold gS;rw[if_pos h];cases o with
 | none=>rfl
 | some b=>exact if_pos (ho b rfl)
theorem zfn (D:List Rev)(p:zA)(f:Rev->Bool):z38 D p f=z38 (zf9 D p) p f:=by
 rw[zfm,zfm];unfold zf9;rw[List.foldl_filter];congr 1
 funext o r
 by_cases h:r.kt=p
 ·simp [h]
 ·rw[gS_far (fun e=>h e.1)];simp [h]
theorem zfo (m:Int)(p:zA):∀(l:List Rev) (o:Option Rev),l.Pairwise (fun a b=>a.num<b.num)->(∀ v∈l,0<v.num/\v.kt=p)->(∀ b,o=some b->0<b.num/\∀ v∈l,b.num<v.num) ->
  zf8 (l.foldl (gS p (fun v=>decide (v.chg<=m))) o)=l.foldl (atM m) (zf8 o)/\(l.foldl (gS p (fun v=>decide (v.chg<=m))) o).isSome=decide (0<(l.foldl (atM m) (zf8 o)).num)
 | [],o,_,_,ho=>by
  refine⟨rfl,?_⟩;cases o with
  | none=>rfl
  | some b=>have:=(ho b rfl).1;simp [zf8,this]
 | v :: l,o,hs,hn,ho=>by
  obtain⟨h1,h2⟩:=ZP.1 hs;have hv:=hn v (Zj ..);have hn2:∀ x∈l,0<x.num/\x.kt=p:=fun x hx=>hn x (Zh _ hx);rw[List.foldl_cons,List.foldl_cons];by_cases hc:v.chg<=m
  ·have e2:atM m (zf8 o) v=zf8 (some v):=by unfold atM;rw[if_pos hc];rfl
   rw[gS_more ⟨hv.2,by simpa using hc⟩ (fun b hb=>(ho b hb).2 v (Zj ..)),e2]
   exact zfo m p l (some v) h2 hn2 (fun b hb=>by injection hb with hb;subst hb;exact⟨hv.1,h1⟩)
  ·have e2:atM m (zf8 o) v=zf8 o:=by unfold atM;rw[if_neg hc]
   rw[gS_far (by simp [hc]),e2]
   exact zfo m p l o h2 hn2 (fun b hb=>⟨(ho b hb).1,fun x hx=>(ho b hb).2 x (Zh _ hx)⟩)
theorem zqh {p:Pat}(h:z8w p=0):p.kp.length<=12:=by
 unfold z8w at h;split at h
 ·cases h
 ·split at h
  ·cases h
  ·split at h
   ·cases h
   ·omega
