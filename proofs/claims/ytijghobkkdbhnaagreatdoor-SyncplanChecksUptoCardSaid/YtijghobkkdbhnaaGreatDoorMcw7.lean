/- A part. -/
import Derived.Test.YtijghobkkdbhnaaGreatDoorMcw4
import Derived.Test.YtijghobkkdbhnaaGreatDoorMcw6
import Derived.Deep.DeepCutAuto
import Derived.Laws.EntriesVeiled
set_option linter.unusedVariables false
set_option linter.unusedSimpArgs false
set_option maxHeartbeats 4000000
set_option maxRecDepth 100000
namespace Go.Proofs.YtijghobkkdbhnaaGreatDoor
open Go.RowKit
theorem z4a {α:Type}(f:α→List Value)(n:Nat)(hf:∀ x,(f x).length=n)(l:List α):(l.flatMap f).length=l.length * n:=by
 induction l with
 | nil=>simp
 | cons x l ih=>simp only[List.flatMap_cons,List.length_append,ih,hf,List.length_cons,Nat.succ_mul];omega
theorem z4b {α:Type}(f:α→List Value)(n:Nat)(hf:∀ x,(f x).length=n)(l:List α)(k j:Nat)(hk:k<l.length)(hj:j<n):(l.flatMap f)[k * n+j]? = (f l[k])[j]?:=by
 induction l generalizing k with
 | nil=>simp at hk
 | cons x l ih =>
  simp only[List.flatMap_cons]
  cases k with
  | zero=>rw[List.getElem?_append_left (by rw[hf];omega)];simp
  | succ k =>
   rw[List.getElem?_append_right (by rw[hf,Nat.succ_mul];omega),hf,show (k+1) * n+j - n=k * n+j by rw[Nat.succ_mul];omega]
   simpa using ih k (by simpa using hk)
def z4c (w:World)(v:Value)(l:List Rev):Prop:=Row w 12 v l.length (l.flatMap Rev.cells)
def z4d (w:World)(v:Value)(l:List Edt):Prop:=Row w 12 v l.length (l.flatMap Edt.cells)
def z4e (w:World)(v:Value)(l:List Rcd):Prop:=Row w 6 v l.length (l.flatMap Rcd.cells)
section
variable {w w' : World} {v : Value}
theorem z4c.below {l:List Rev}(h:z4c w v l)(hb:zB w w'):z4c w' v l:=Row.below h hb
theorem z4d.below {l:List Edt}(h:z4d w v l)(hb:zB w w'):z4d w' v l:=Row.below h hb
theorem z4e.below {l:List Rcd}(h:z4e w v l)(hb:zB w w'):z4e w' v l:=Row.below h hb
theorem z4c.keep {l:List Rev}(h:z4c w v l)(hs:w.heap.size≤w'.heap.size)(hk:∀ p:Addr,p.block<w.heap.size→w'.cell? p=w.cell? p):z4c w' v l:=Row.keep h hs hk
theorem z4c.nil_ (w:World):z4c w (.slice none 0 0) []:=Row.nil_ w 12
theorem z4e.nil_ (w:World):z4e w (.slice none 0 0) []:=Row.nil_ w 6
end
theorem z4f {α:Type}{f:α→List Value}{n:Nat}(hf:∀ x,(f x).length=n){w:World}{A:Option Addr}{c:Nat}{l:List α}(h:Row w n (.slice A l.length c) l.length (l.flatMap f)){k:Nat}(hk:k<l.length):
  ∃ ad,A=some ad∧ad.block<w.heap.size∧∀ j v,(f l[k])[j]? = some v→w.cell? (if j=0 then ad.add (k * n) else ⟨(ad.add (k * n)).block,(ad.add (k * n)).off+j,none⟩)=some v:=by
 obtain⟨ad,e,hb,hc⟩:=Row.at_ h hk;refine⟨ad,e,hb,fun j v hv=>?_⟩;have hj:j<n:=by rw[← hf l[k]];exact (List.getElem?_eq_some_iff.1 hv).1
 have:=hc j v (by rw[z4b f n hf l k j hk hj];exact hv)
 cases j with
 | zero=>simpa using this
 | succ j=>rw[if_neg (by omega),z02,z01];exact this
def RevAt (w:World)(a:Addr)(x:Rev):Prop:=w.cell? a=some (.string x.path)∧w.cell? ⟨a.block,a.off+1,none⟩=some (.int .i64 x.num)∧w.cell? ⟨a.block,a.off+2,none⟩=some (.int .i64 x.chg)∧w.cell? ⟨a.block,a.off+3,none⟩=some (.int .i64 x.act)∧w.cell? ⟨a.block,a.off+4,none⟩=some (.int .i64 x.ty.base)∧w.cell? ⟨a.block,a.off+5,none⟩=some (.bool x.ty.k)∧w.cell? ⟨a.block,a.off+6,none⟩=some (.bool x.ty.l)∧w.cell? ⟨a.block,a.off+7,none⟩=some (.bool x.ty.x)∧w.cell? ⟨a.block,a.off+8,none⟩=some (.int .u64 x.sum)∧w.cell? ⟨a.block,a.off+9,none⟩=some (.int .i64 x.size)∧w.cell? ⟨a.block,a.off+10,none⟩=some (.string x.frm)∧w.cell? ⟨a.block,a.off+11,none⟩=some (.int .i64 x.fnum)
theorem z4c.at_ {w:World}{A:Option Addr}{c:Nat}{l:List Rev}(h:z4c w (.slice A l.length c) l){k:Nat}(hk:k<l.length):
  ∃ ad,A=some ad∧ad.block<w.heap.size∧RevAt w (ad.add (k * 12)) l[k]:=by
 obtain⟨ad,e,hb,hc⟩:=z4f (f:=Rev.cells) (n:=12) (fun _=>rfl) h hk;exact⟨ad,e,hb,hc 0 _ rfl,hc 1 _ rfl,hc 2 _ rfl,hc 3 _ rfl,hc 4 _ rfl,hc 5 _ rfl,hc 6 _ rfl,hc 7 _ rfl,hc 8 _ rfl,hc 9 _ rfl,hc 10 _ rfl,hc 11 _ rfl⟩
def EdtAt (w:World)(a:Addr)(x:Edt):Prop:=w.cell? a=some (.string x.path)∧w.cell? ⟨a.block,a.off+1,none⟩=some (.int .i64 x.act)∧w.cell? ⟨a.block,a.off+2,none⟩=some (.int .i64 x.ty.base)∧w.cell? ⟨a.block,a.off+3,none⟩=some (.bool x.ty.k)∧w.cell? ⟨a.block,a.off+4,none⟩=some (.bool x.ty.l)∧w.cell? ⟨a.block,a.off+5,none⟩=some (.bool x.ty.x)∧w.cell? ⟨a.block,a.off+6,none⟩=some (.int .u64 x.sum)∧w.cell? ⟨a.block,a.off+7,none⟩=some (.int .i64 x.size)∧w.cell? ⟨a.block,a.off+8,none⟩=some (.int .i64 x.base)∧w.cell? ⟨a.block,a.off+9,none⟩=some (.string x.frm)∧w.cell? ⟨a.block,a.off+10,none⟩=some (.int .i64 x.fnum)∧w.cell? ⟨a.block,a.off+11,none⟩=some (.int .i64 x.fence)
theorem z4d.at_ {w:World}{A:Option Addr}{c:Nat}{l:List Edt}(h:z4d w (.slice A l.length c) l){k:Nat}(hk:k<l.length):
  ∃ ad,A=some ad∧ad.block<w.heap.size∧EdtAt w (ad.add (k * 12)) l[k]:=by
 obtain⟨ad,e,hb,hc⟩:=z4f (f:=Edt.cells) (n:=12) (fun _=>rfl) h hk;exact⟨ad,e,hb,hc 0 _ rfl,hc 1 _ rfl,hc 2 _ rfl,hc 3 _ rfl,hc 4 _ rfl,hc 5 _ rfl,hc 6 _ rfl,hc 7 _ rfl,hc 8 _ rfl,hc 9 _ rfl,hc 10 _ rfl,hc 11 _ rfl⟩
def RcdAt (w:World)(a:Addr)(x:Rcd):Prop:=w.cell? a=some (.string x.frm)∧w.cell? ⟨a.block,a.off+1,none⟩=some (.int .i64 x.first)∧w.cell? ⟨a.block,a.off+2,none⟩=some (.int .i64 x.last)∧w.cell? ⟨a.block,a.off+3,none⟩=some (.string x.to)∧w.cell? ⟨a.block,a.off+4,none⟩=some (.int .i64 x.num)∧w.cell? ⟨a.block,a.off+5,none⟩=some (.int .i64 x.how)
theorem z4e.at_ {w:World}{A:Option Addr}{c:Nat}{l:List Rcd}(h:z4e w (.slice A l.length c) l){k:Nat}(hk:k<l.length):
  ∃ ad,A=some ad∧ad.block<w.heap.size∧RcdAt w (ad.add (k * 6)) l[k]:=by
 obtain⟨ad,e,hb,hc⟩:=z4f (f:=Rcd.cells) (n:=6) (fun _=>rfl) h hk;exact⟨ad,e,hb,hc 0 _ rfl,hc 1 _ rfl,hc 2 _ rfl,hc 3 _ rfl,hc 4 _ rfl,hc 5 _ rfl⟩
def Chk (w:World)(g:Nat)(dv dr:Value)(n:Int)(cl tx:ByteArray)(ev rv:Value)(bl be bn:Nat):Prop:=
 Blk w g 204 [dv,dr,.int .i64 n,.string cl,.string tx,ev,rv,.map (some bl),.map (some be),.map (some bn)]
theorem z4g {w:World}{g:Nat}{dv dr ev rv:Value}{n:Int}{cl tx:ByteArray}{bl be bn:Nat}(h:Chk w g dv dr n cl tx ev rv bl be bn):
  w.cell? ⟨g,0,none⟩=some dv∧w.cell? ⟨g,1,none⟩=some dr∧w.cell? ⟨g,2,none⟩=some (.int .i64 n)∧w.cell? ⟨g,5,none⟩=some ev∧w.cell? ⟨g,6,none⟩=some rv ∧
  w.cell? ⟨g,7,none⟩=some (.map (some bl))∧w.cell? ⟨g,8,none⟩=some (.map (some be))∧w.cell? ⟨g,9,none⟩=some (.map (some bn)):=
 ⟨Blk.cell h 0,Blk.cell h 1,Blk.cell h 2,Blk.cell h 5,Blk.cell h 6,Blk.cell h 7,Blk.cell h 8,Blk.cell h 9⟩
theorem patE_0 {p:Pat}(h:p.parts.length=0):z7g p=30:=by unfold z7g;rw[if_pos (.inl h)]
theorem z8l {p:Pat}(h:p.parts.length=1)(hr:p.rest=false):z7g p=30:=by unfold z7g;rw[if_pos (.inr ⟨h,hr⟩)]
theorem z8m {p:Pat}(h:z7f p.parts=false):z7g p=30:=by
 unfold z7g;by_cases h1:p.parts.length=0∨(p.parts.length=1∧p.rest=false)
 ·rw[if_pos h1]
 ·rw[if_neg h1,if_pos h]
theorem z8n {p:Pat}(h1:¬(p.parts.length=0∨(p.parts.length=1∧p.rest=false)))(h:z7f p.parts=true):z7g p=if 12<p.parts.length then 31 else 0:=by
 unfold z7g;rw[if_neg h1,if_neg (by rw[h];simp)]
theorem z8o (s:ByteArray):z7d s=0∨z7d s=1∨z7d s=2:=by
 unfold z7d;split
 ·exact .inr (.inl rfl)
 ·split
  ·split
   ·exact .inr (.inr rfl)
   ·exact .inl rfl
  ·exact .inl rfl
theorem z8p (p:Pat)(A:Option Addr)(c:Nat)(w:World)(hS:Strs w (.slice A p.parts.length c) p.parts)(hz:∀ x∈p.parts,x.size≤maxLen):
  Calls Tryz.prog 133 #[.agg #[.slice A p.parts.length c,.bool p.rest]] w fun e w'=>e=.returned (.int .i64 (z7g p))∧zB w w':=by
 obtain⟨A',c',e',hcc,hmm,-⟩:=id hS;injection e' with e1 e2 e3
 subst e1 e3;unfold maxLen at hmm;have HS:=hd_ hS;have HZ:=hd_ hz;have HF:=hd_ (fun x (hx:x.size≤maxLen) X=>z7n x X hx);obtain⟨parts,rest⟩:=p;dsimp only at hcc hmm HS HZ ⊢
 have HE0:=hd_ (@patE_0 ⟨parts,rest⟩);have HE1:=hd_ (@z8l ⟨parts,rest⟩);have HEF:=hd_ (@z8m ⟨parts,rest⟩);have HEE:=hd_ (@z8n ⟨parts,rest⟩);have hB:=z0l w [.slice A parts.length c,.bool rest] 68;have hA:zB w (w.alloc (.cells #[.slice A parts.length c,.bool rest] 68)):=(Below.refl _ _).alloc (Nat.le_refl _) _;clear hS hz e2;go_enter Tryz.func133,Tryz.ntmps133;go_upto_region 1 with fail;generalize w.alloc (.cells #[.slice A parts.length c,.bool rest] 68)=W1 at hB hA ⊢;have d0:W1.cell? ⟨w.heap.size,0,none⟩=some (.slice A parts.length c):=hB.cell 0;have d1:W1.cell? ⟨w.heap.size,1,none⟩=some (.bool rest):=hB.cell 1;have HB:=hd_ hB;have HA:=hd_ hA;clear hB hA;by_cases h0:parts.length=0
 ·have q0:((parts.length:Int) == 0)=true:=by rw[beq_iff_eq];omega
  have HR:=hd_ (HE0.out h0);clear h0;go_wp2_with fail;go_ret;exact⟨z7l HR.out.symm,HA.out⟩
 have q0:((parts.length:Int) == 0)=false:=by rw[beq_eq_false_iff_ne];omega
 have HN1:Hid (parts.length=1∧rest=false∨¬(parts.length=0∨(parts.length=1∧rest=false))):=hd_ (by
  by_cases h:parts.length=1∧rest=false
  ·exact .inl h
  ·exact .inr (fun hh=>by rcases hh with hh | hh;exact h0 hh;exact h hh))
 clear h0;rcases HN1.out with⟨h1,hr⟩ | hgood
 ·have q1:((parts.length:Int) == 1)=true:=by rw[beq_iff_eq];omega
  have HR:=hd_ (HE1.out h1 hr);subst hr;clear h1 HN1;go_wp2_with fail;go_ret;exact⟨z7l HR.out.symm,HA.out⟩
 have HG:=hd_ hgood;clear HN1 hgood;go_cut [19] (fun v wx=>v=.bool false∧wx=W1)
 case first =>
  by_cases h1:parts.length=1
  ·have q1:((parts.length:Int) == 1)=true:=by rw[beq_iff_eq];omega
   have hr:rest=true:=by
    cases rest with
    | true=>rfl
    | false=>exact absurd (.inr ⟨h1,rfl⟩) HG.out
   subst hr;clear h1;go_wp2_with fail;go_meet
   exact⟨rfl,rfl⟩
  ·have q1:((parts.length:Int) == 1)=false:=by rw[beq_eq_false_iff_ne];omega
   clear h1;go_wp2_with fail;go_meet
   exact⟨rfl,rfl⟩
 case rest =>
  obtain⟨rfl,rfl⟩:=hcut;clear q0;go_wp2_with fail;go_loop [23] (fun i=>∃ k:Nat,k≤parts.length∧i=.int .i64 k∧Hid (∀ j (hj:j<parts.length),j<k→z7e j parts[j]=true)) (fun i=>parts.length - (intOf i).toNat)
  case atStart=>exact⟨0,Nat.zero_le _,rfl,fun j _ a=>by omega⟩
  case round =>
   obtain⟨k,hk,rfl,HI⟩:=hrel;by_cases hlt:k<parts.length
   ·obtain⟨ad,rfl,hab,x0⟩:=Strs.at_ (HS.out.below HA.out) hlt;have HX:=hd_ (HF.out parts[k] (HZ.out _ (List.getElem_mem hlt)));have HNO:=hd_ (fun h=>HEF.out (z7h hlt h));have HYS:Hid (z7e k parts[k]=true→∀ j (hj:j<parts.length),j<k+1→z7e j parts[j]=true):=hd_ (fun h j hj a=>by
     by_cases e:j=k
     ·subst e;exact h
     ·exact HI.out j hj (by omega))
    have HPO:Hid (z7e k parts[k]=(decide (z7d parts[k]≠0) && !(decide (k=0) && decide (z7d parts[k]=2)))):=hd_ rfl;have hfc:=z8o parts[k];generalize parts[k]=x at x0 HX HNO HYS HPO hfc;generalize z7d x=f at HX HPO hfc;clear HI;rcases hfc with rfl | rfl | rfl
    ·have HR:=hd_ (HNO.out (by rw[HPO.out];rfl))
     go_wp2_with (go_at_call 190;refine (HX.out _).mono ?_;rintro e w' ⟨rfl,rfl⟩)
     go_ret;exact⟨z7l HR.out.symm,HA.out⟩
    ·have HR:=hd_ (HYS.out (by rw[HPO.out];simp))
     go_wp2_with (go_at_call 190;refine (HX.out _).mono ?_;rintro e w' ⟨rfl,rfl⟩)
     go_round
     case rel=>exact⟨k+1,by omega,by go_num,HR.out⟩
     case measure=>simp [intOf];omega
    ·by_cases hk0:k=0
     ·have HR:=hd_ (HNO.out (by rw[HPO.out,hk0];rfl))
      have qk:((k:Int) == 0)=true:=by rw[beq_iff_eq];omega
      have HK:=hd_ hk0;clear hk0;go_wp2_with (go_at_call 190;refine (HX.out _).mono ?_;rintro e w' ⟨rfl,rfl⟩)
      go_ret;exact⟨z7l HR.out.symm,HA.out⟩
     ·have HR:=hd_ (HYS.out (by rw[HPO.out];simp [hk0]))
      have qk:((k:Int) == 0)=false:=by rw[beq_eq_false_iff_ne];omega
      clear hk0;go_wp2_with (go_at_call 190;refine (HX.out _).mono ?_;rintro e w' ⟨rfl,rfl⟩)
      go_round
      case rel=>exact⟨k+1,by omega,by go_num,HR.out⟩
      case measure=>simp [intOf];omega
   ·have HR:=hd_ (HEE.out HG.out (z7i (fun j hj=>HI.out j hj (by omega))))
    have hge:¬((k:Int)<(parts.length:Int)):=by omega
    clear HI;by_cases h12:12<parts.length
    ·have q12:decide ((12:Int)<(parts.length:Int))=true:=by simp;omega
     rw[if_pos h12] at HR;clear h12;go_wp2_with fail;go_ret;exact⟨z7l HR.out.symm,HA.out⟩
    ·have q12:decide ((12:Int)<(parts.length:Int))=false:=by simp;omega
     rw[if_neg h12] at HR;clear h12;go_wp2_with fail;go_ret;exact⟨z7l HR.out.symm,HA.out⟩
section
variable {κ α : Type} [BEq κ] {P : Program} {k : TypeId} {kv : κ → Value} {enc : α → Value} {w w' : World} {B : Nat} {f : κ → Option α}
def z9o (kv:κ→Value)(enc:α→Value)(w:World)(B:Nat)(f:κ→Option α):Prop:=∃ m:List (κ×Value),z1z kv w B m∧(m.map (·.1)).Nodup∧∀ x,z1u m x=(f x).map enc
theorem z9o.fmap (h:z9o kv enc w B f):z2k kv enc w B f:=by obtain⟨m,h,-,r⟩:=h;exact⟨m,h,r⟩
theorem z9o.lt (h:z9o kv enc w B f):B<w.heap.size:=h.fmap.lt
theorem z9o.keep (h:z9o kv enc w B f)(hk:w'.heap[B]? = w.heap[B]?):z9o kv enc w' B f:=by obtain⟨m,h,n,r⟩:=h;exact⟨m,h.keep hk,n,r⟩
theorem z9o.below (h:z9o kv enc w B f)(hb:zB w w'):z9o kv enc w' B f:=by obtain⟨m,h,n,r⟩:=h;exact⟨m,h.below hb,n,r⟩
theorem z9o.new (kv:κ→Value)(enc:α→Value)(w:World):z9o kv enc (w.alloc (.map #[] 0)) w.heap.size (fun _=>none):=⟨[],z1z.new kv w,List.nodup_nil,fun _=>rfl⟩
theorem z9p [LawfulBEq κ](k:κ)(v:Value):∀(m:List (κ×Value)) (x:κ),x∈(z1v m k v).map (·.1)→x=k∨x∈m.map (·.1)
 | [],x,h=>by simp [z1v] at h;exact .inl h
 | p :: m,x,h=>by
  by_cases hk:(k == p.1)=true
  ·have e:k=p.1:=eq_of_beq hk;simp only[z1v,hk,if_true,List.map_cons,List.mem_cons] at h ⊢
   rcases h with h | h
   ·exact .inl h
   ·exact .inr (.inr h)
  ·simp only[z1v,hk,if_false,List.map_cons,List.mem_cons,Bool.false_eq_true] at h ⊢
   rcases h with h | h
   ·exact .inr (.inl h)
   ·rcases z9p k v m x h with h | h
    ·exact .inl h
    ·exact .inr (.inr h)
theorem z9q [LawfulBEq κ](k:κ)(v:Value):∀(m:List (κ×Value)),(m.map (·.1)).Nodup→((z1v m k v).map (·.1)).Nodup
 | [],_=>by simp [z1v]
 | p :: m,h=>by
  rw[List.map_cons,List.nodup_cons] at h;by_cases hk:(k == p.1)=true
  ·have e:k=p.1:=eq_of_beq hk;simp only[z1v,hk,if_true,List.map_cons]
   rw[e,List.nodup_cons];exact h
  ·have hne:¬ k=p.1:=fun e=>hk (by rw[e];exact beq_self_eq_true _)
   simp only[z1v,hk,if_false,List.map_cons,Bool.false_eq_true]
   rw[List.nodup_cons];refine⟨fun hx=>?_,z9q k v m h.2⟩;rcases z9p k v m p.1 hx with e | e
   ·exact hne e.symm
   ·exact h.1 e
theorem z9o.update [LawfulBEq κ][DecidableEq κ](h:z9o kv enc w B f)(K:z1x P k kv){t e:TypeId}(ht:P.underlying t=some (.map k e))(x:κ)(v:α):
  ∃ w',(Instr.mapUpdate t (.map (some B)) (kv x) (enc v)).run P w=.ok () w'∧z9o kv enc w' B (upd f x v)∧w.grownBy w' (some B)∧w'.heap.size=w.heap.size:=by
 obtain⟨m,h,n,r⟩:=h;obtain⟨w',h1,h2,h3,h4⟩:=h.update K ht x (enc v);refine⟨w',h1,⟨_,h2,z9q _ _ _ n,fun y=>?_⟩,h3,h4⟩;rw[z2l];unfold upd;by_cases e:y=x
 ·rw[if_pos e,if_pos e];rfl
 ·rw[if_neg e,if_neg e];exact r y
end
theorem zdm:z2q.toList=[]:=by rw[ByteArray.toList_eq];rfl
theorem zdn {s:ByteArray}(h:s=z2q):s.toList=[]:=by subst h;exact zdm
theorem zdo {s:ByteArray}(h:s≠z2q):¬ s.toList=[]:=by
 intro e;apply h
 rw[← toList_inj,e,zdm]
theorem zdp {s:ByteArray}(h:s≠z2q):s.toList.isEmpty=false:=by
 have:=zdo h;cases hs:s.toList with
 | nil=>exact absurd hs this
 | cons a l=>rfl
theorem zdq (a b:ByteArray):(a.toList == b.toList)=decide (a=b):=by
 rw[Bool.eq_iff_iff,beq_iff_eq,decide_eq_true_eq,toList_inj]
def zga (revs:List Rev)(p:ByteArray):List Rev:=revs.filter fun r=>decide (r.path=p)
theorem zgb {revs:List Rev}{p:ByteArray}{v:Rev}:v∈zga revs p↔v∈revs∧v.path=p:=by
 unfold zga;simp
theorem zgc (a b:List Rev)(p:ByteArray):zga (a++b) p=zga a p++zga b p:=by unfold zga;rw[List.filter_append]
