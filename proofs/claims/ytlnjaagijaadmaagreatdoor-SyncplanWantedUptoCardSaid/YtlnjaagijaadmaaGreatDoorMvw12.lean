/- A part. -/
import Derived.Test.YtlnjaagijaadmaaGreatDoorMvw11
import Derived.Test.YtlnjaagijaadmaaGreatDoorMvw10
set_option linter.unusedVariables false
set_option linter.unusedSimpArgs false
set_option maxHeartbeats 2000000
set_option maxRecDepth 100000
namespace Go.Proofs.YtlnjaagijaadmaaGreatDoor
open Go.RowKit Go.Lib
open Go.Sort hiding Below
section
variable {P : Program} {α : Type} [Inhabited α] {enc : α -> List zV} {k : Nat} {e : TypeId} {w0 W W' : zW} {blk off C : Nat} {d : Array α}
theorem z4o (g:Nat):∀(vs:List zV) (o:Nat) (w:zW),(w.setCells g o vs).heap.size=w.heap.size
 | [],o,w=>rfl
 | v :: vs,o,w=>by rw[World.setCells,z4o g vs (o+1)];simp [World.setCell]
theorem z4p (g:Nat):∀(vs:List zV) (o:Nat) (w:zW) (j:Nat),j≠g->(w.setCells g o vs).heap[j]? = w.heap[j]?
 | [],o,w,j,h=>rfl
 | v :: vs,o,w,j,h=>by rw[World.setCells,z4p g vs (o+1) _ j h];exact Ya w _ _ _ h
theorem z4q (g:Nat)(e:TypeId)(C:Nat):∀(vs:List zV) (o:Nat) (w:zW),(∃ cur:Array zV,w.heap[g]? = some (.cells cur e (0,0))/\cur.size=C)->∃ cur:Array zV,(w.setCells g o vs).heap[g]? = some (.cells cur e (0,0))/\cur.size=C
 | [],o,w,h=>h
 | v :: vs,o,w,⟨cur,h1,h2⟩=>by
  rw[World.setCells];refine z4q g e C vs (o+1) _ ⟨cur.setIfInBounds o v,?_,by simpa using h2⟩
  simp [World.setCell,Array.getElem?_modify,h1]
theorem z4r (g:Nat):∀(vs:List zV) (o:Nat) (w:zW),(w.setCells g o vs).os=w.os/\(w.setCells g o vs).tape=w.tape/\(w.setCells g o vs).output=w.output
 | [],o,w=>⟨rfl,rfl,rfl⟩
 | v :: vs,o,w=>by rw[World.setCells];exact z4r g vs (o+1) _
structure SB (enc:α->List zV)(k:Nat)(e:TypeId)(w0:zW)(blk off C:Nat)(d:Array α)(W:zW):Prop where
 hold:HoldsK enc k W blk off d
 own:∃ cur:Array zV,W.heap[blk]? = some (.cells cur e (0,0))/\cur.size=C
 gr:w0.grownBy W (some blk)
theorem SB.lt (h:SB enc k e w0 blk off C d W):blk<W.heap.size:=by
 obtain⟨cur,h1,-⟩:=h.own;exact (ZC.1 h1).1
theorem SB.kw (h:SB enc k e w0 blk off C d W)(hb:Go.RowKit.Below W.heap.size W W'):SB enc k e w0 blk off C d W':=by
 have hl:=h.lt;refine⟨fun j hj=>?_,?_,?_⟩
 ·obtain⟨h1,h2⟩:=h.hold j hj;exact⟨(hb.cell (p:=⟨blk,off+j,none⟩) hl).trans h1,(hb.frozen (p:=⟨blk,off+j,none⟩) hl).trans h2⟩
 ·rw[hb.block blk hl];exact h.own
 ·exact⟨hb.os.trans h.gr.os,hb.tape.trans h.gr.tape,hb.output.trans h.gr.output,Zf h.gr.size hb.size,fun j hj hne=>(hb.block j (Zq hj h.gr.size)).trans (h.gr.block j hj hne)⟩
theorem SB.drew (h:SB enc k e w0 blk off C d W):SB enc k e w0 blk off C d W.drew:=h.kw (Zb _ _).drew
theorem SB.swap (h:SB enc k e w0 blk off C d W)(hk:∀ x,(enc x).length=k){i j:Nat}(hi:i<d.size)(hj:j<d.size):
  SB enc k e w0 blk off C (swp d i j) ((W.setCells blk (off+i * k) (enc d[j]!)).setCells blk (off+j * k) (enc d[i]!)):=by
 have hs:=(SWK.start h.hold).swap hk h.lt i j hi hj;obtain⟨a1,a2,a3⟩:=z4r blk (enc d[j]!) (off+i * k) W;obtain⟨b1,b2,b3⟩:=z4r blk (enc d[i]!) (off+j * k) (W.setCells blk (off+i * k) (enc d[j]!));refine⟨hs.holds h.lt h.hold (size_swp _ _ _),z4q _ _ _ _ _ _ (z4q _ _ _ _ _ _ h.own),⟨by rw[b1,a1];exact h.gr.os,by rw[b2,a2];exact h.gr.tape,by rw[b3,a3];exact h.gr.output,?_,fun j' hj' hne=>?_⟩⟩
 ·rw[z4o,z4o];exact h.gr.size
 ·have hne':j'≠blk:=fun e=>hne (by rw[e])
  rw[z4p _ _ _ _ _ hne',z4p _ _ _ _ _ hne'];exact h.gr.block j' hj' hne
end
open Go.RowKit
inductive Bl (hs:List Hav) (pl:List Syn):zA->Prop
 | free {x:Syn} {h:Hav}:x∈pl->z5d x.kind=false->x.dst≠z2r->h∈hs->h.loc=x.dst->h.kt≠x.kt->z7k pl h.kt=none->Bl hs pl x.kt
 | stay {x y:Syn} {h:Hav}:x∈pl->z5d x.kind=false->x.dst≠z2r->h∈hs->h.loc=x.dst->h.kt≠x.kt->z7k pl h.kt=some y->z5d y.kind=true->Bl hs pl x.kt
 | next {x:Syn} {h:Hav}:x∈pl->z5d x.kind=false->x.dst≠z2r->h∈hs->h.loc=x.dst->h.kt≠x.kt->Bl hs pl h.kt->Bl hs pl x.kt
noncomputable def blB (hs:List Hav)(pl:List Syn)(p:zA):Bool:=@decide (Bl hs pl p) (Classical.propDecidable _)
theorem z7t {hs:List Hav}{pl:List Syn}{p:zA}:blB hs pl p=true↔Bl hs pl p:=by unfold blB;exact @decide_eq_true_iff _ (Classical.propDecidable _)
def z7u (b:zA->Bool)(x:Syn):Syn:=if b x.kt then { x with kind:=5 } else x
def z7v (b:zA->Bool)(pl:List Syn):List Syn:=pl.map (z7u b)
theorem z7w (b:zA->Bool)(x:Syn):(z7u b x).kt=x.kt:=by unfold z7u;split <;> rfl
theorem z7x (b:zA->Bool)(x:Syn):(z7u b x).num=x.num/\(z7u b x).frm=x.frm/\(z7u b x).dst=x.dst:=by unfold z7u;split <;> exact⟨rfl,rfl,rfl⟩
theorem z7y (b:zA->Bool)(x:Syn):z5d (z7u b x).kind=(b x.kt || z5d x.kind):=by
 unfold z7u;cases b x.kt
 ·rfl
 ·rfl
def z7z (pl:List Syn)(b:zA->Bool)(p:zA):Prop:=z7k pl p=none\/∃ y,z7k pl p=some y/\(z5d y.kind=true\/b p=true)
theorem bl_eq {hs:List Hav}{pl:List Syn}{b:zA->Bool}(hs1:∀ p,b p=true->Bl hs pl p)
  (hc:∀ x∈pl,z5d x.kind=false->b x.kt=false->x.dst≠z2r->∀ h∈hs,h.loc=x.dst->h.kt≠x.kt->¬ z7z pl b h.kt):b=blB hs pl:=by
 have key:∀ p,Bl hs pl p->b p=true:=by
  intro p hp;induction hp with
  | free h1 h2 h3 h4 h5 h6 h7 =>
   cases e:b _ with
   | true=>rfl
   | false=>exact absurd (.inl h7) (hc _ h1 h2 e h3 _ h4 h5 h6)
  | stay h1 h2 h3 h4 h5 h6 h7 h8 =>
   cases e:b _ with
   | true=>rfl
   | false=>exact absurd (.inr ⟨_,h7,.inl h8⟩) (hc _ h1 h2 e h3 _ h4 h5 h6)
  | @next x h h1 h2 h3 h4 h5 h6 h7 ih =>
   cases e:b x.kt with
   | true=>rfl
   | false =>
    have hst:z7z pl b h.kt:=by
     cases hg:z7k pl h.kt with
     | none=>exact .inl hg
     | some y=>exact .inr ⟨y,hg,.inr ih⟩
    exact absurd hst (hc _ h1 h2 e h3 _ h4 h5 h6)
 funext p
 rw[ZY,z7t];exact⟨hs1 p,key p⟩
theorem z80 {hs:List Hav}{pl:List Syn}{b:zA->Bool}(hb:∀ p,b p=true->Bl hs pl p){x:Syn}{h:Hav}(h1:x∈pl)(h2:z5d x.kind=false)(h3:x.dst≠z2r)(h4:h∈hs)(h5:h.loc=x.dst)(h6:h.kt≠x.kt)(h7:z7z pl b h.kt):Bl hs pl x.kt:=by
 rcases h7 with h7 | ⟨y,h7,h8 | h8⟩
 ·exact .free h1 h2 h3 h4 h5 h6 h7
 ·exact .stay h1 h2 h3 h4 h5 h6 h7 h8
 ·exact .next h1 h2 h3 h4 h5 h6 (hb _ h8)
structure z81 (l:List Hav):Prop where
 srt:z7h l
 ok:∀ x∈l,x.okB=true
 loc:∀ x∈l,∀ y∈l,x.loc=y.loc->x.kt=y.kt
theorem z82 {x:Hav}(h:x.okB=true):z5f x.kt=true/\z5f x.loc=true/\1<=x.num:=by
 unfold Hav.okB at h;simp only[Zw,decide_eq_true_eq] at h
 exact⟨h.1.1,h.1.2,h.2⟩
theorem z83 {p:zA}(h:z5f p=true):z2y p=true/\p.size<=200/\p≠z2r:=by
 unfold z5f at h;simp only[Zw,decide_eq_true_eq] at h
 refine⟨h.2,h.1,?_⟩;rintro rfl;exact absurd h.2 (by decide)
theorem z81.valid {l:List Hav}(h:z81 l):∀ x∈l,z2y x.kt=true:=fun x hx=>(z83 (z82 (h.ok x hx)).1).1
theorem z81.locNe {l:List Hav}(h:z81 l){x:Hav}(hx:x∈l):x.loc≠z2r:=(z83 (z82 (h.ok x hx)).2.1).2.2
theorem z84:z81 []:=⟨List.Pairwise.nil,(fun x hx=>by cases hx),(fun x hx=>by cases hx)⟩
theorem z85:∀(l:List Hav) (p:Option Hav) (s:List zA),(∀ q,p=some q->z2y q.kt=true) ->
  (z5w p s l=0↔z81 l/\(∀ q,p=some q->∀ x∈l,z30 q.kt x.kt<0)/\∀ x∈l,x.loc∉s)
 | [],p,s,_=>⟨fun _=>⟨z84,(fun q _ x hx=>by cases hx),(fun x hx=>by cases hx)⟩,fun _=>rfl⟩
 | h :: r,p,s,hv=>by
  rw[z5w];by_cases h1:(!h.okB || z5u p h)=true
  ·rw[if_pos h1];refine⟨fun e=>absurd e (by decide),fun ⟨g1,g2,g3⟩=>?_⟩
   have o1:=g1.ok h (Zj ..);rw[o1] at h1;cases p with
   | none=>exact absurd h1 (by show ¬(false || false)=true;decide)
   | some q =>
    have:=g2 q rfl h (Zj ..);rw[z5v] at h1;simp at h1
    omega
  ·rw[if_neg h1];have o1:h.okB=true:=by cases e:h.okB;rw[e] at h1;exact absurd rfl h1;rfl
   have o2:z5u p h=false:=by cases e:z5u p h;rfl;rw[e,Bool.or_true] at h1;exact absurd rfl h1
   have vh:=(z83 (z82 o1).1).1;by_cases h2:h.loc∈s
   ·rw[if_pos h2];exact⟨fun e=>absurd e (by decide),fun ⟨g1,g2,g3⟩=>absurd h2 (g3 h (Zj ..))⟩
   ·rw[if_neg h2,z85 r (some h) (h.loc :: s) (fun q e=>by rw[<- Option.some.inj e];exact vh)]
    constructor
    ·rintro⟨g1,g2,g3⟩;have g2':=g2 h rfl;refine⟨⟨ZP.2 ⟨g2',g1.srt⟩,fun x hx=>?_,fun x hx y hy e=>?_⟩,fun q e x hx=>?_,fun x hx=>?_⟩
     ·rcases Zn.1 hx with rfl | hx
      ·exact o1
      ·exact g1.ok x hx
     ·rcases Zn.1 hx with rfl | hx
      ·rcases Zn.1 hy with rfl | hy
       ·rfl
       ·exact absurd (by rw[<- e];exact Zj ..) (g3 y hy)
      ·rcases Zn.1 hy with e2 | hy
       ·exact absurd (by rw[e,e2];exact Zj ..) (g3 x hx)
       ·exact g1.loc x hx y hy e
     ·subst e;have hq:z30 q.kt h.kt<0:=by rw[z5v] at o2;simp at o2;omega
      rcases Zn.1 hx with rfl | hx
      ·exact hq
      ·exact z6r (hv q rfl) vh (g1.valid x hx) hq (g2' x hx)
     ·rcases Zn.1 hx with rfl | hx
      ·exact h2
      ·exact fun hs=>g3 x hx (Zh _ hs)
    ·rintro⟨g1,g2,g3⟩;refine⟨⟨g1.srt.tail,fun x hx=>g1.ok x (Zh _ hx),fun x hx y hy=>g1.loc x (Zh _ hx) y (Zh _ hy)⟩,fun q e x hx=>?_,fun x hx hs=>?_⟩
     ·rw[<- Option.some.inj e];exact g1.srt.head x hx
     ·rcases Zn.1 hs with e | hs
      ·exact z74 (g1.srt.head x hx) (g1.loc h (Zj ..) x (Zh _ hx) e.symm)
      ·exact g3 x (Zh _ hx) hs
theorem z86 {l:List Hav}:z5x l=0↔z81 l/\l.length<=1024:=by
 unfold z5x;by_cases h:1024<l.length
 ·rw[if_pos h];exact⟨fun e=>absurd e (by decide),fun ⟨_,h2⟩=>by omega⟩
 ·rw[if_neg h,z85 l none [] (fun q e=>by cases e)]
  exact⟨fun ⟨h1,_⟩=>⟨h1,by omega⟩,fun ⟨h1,_⟩=>⟨h1,(fun q e=>by cases e),(fun x _ hs=>by cases hs)⟩⟩
def z87 (op dt:List zA)(x:Syn):Int:=if x.kt∈op then 6 else if (x.frm≠z2r/\x.frm∈dt)\/(x.dst≠z2r/\x.dst∈dt) then 5 else z5e x.frm x.dst
def z88 (op dt:List zA)(x:Syn):Syn:={ x with kind:=z87 op dt x }
def z89 (hs ws:List Hav)(op dt:List zA):List Syn:=(z7n (hs.length+ws.length) hs ws).map (z88 op dt)
noncomputable def z8a (hs ws:List Hav)(op dt:List zA):List Syn:=z7v (blB hs (z89 hs ws op dt)) (z89 hs ws op dt)
theorem z8b (a b:Hav):z7o (some a) (some b)=if a=b then none else some (updT a b):=rfl
theorem z8c {h w:Option Hav}{x:Syn}(e:z7o h w=some x):
  (∃ a,h=some a/\w=none/\x=z7m a)\/(∃ b,h=none/\w=some b/\x=z7l b)\/∃ a b,h=some a/\w=some b/\a≠b/\x=updT a b:=by
 cases h with
 | none =>
  cases w with
  | none=>cases e
  | some b=>exact .inr (.inl ⟨b,rfl,rfl,(Option.some.inj e).symm⟩)
 | some a =>
  cases w with
  | none=>exact .inl ⟨a,rfl,rfl,(Option.some.inj e).symm⟩
  | some b =>
   rw[z8b] at e;by_cases eq:a=b
   ·rw[if_pos eq] at e;cases e
   ·rw[if_neg eq] at e;exact .inr (.inr ⟨a,b,rfl,rfl,eq,(Option.some.inj e).symm⟩)
section
variable {hs ws : List Hav} {op dt : List zA}
theorem z8d (h1:z81 hs)(h2:z81 ws):z7i (z89 hs ws op dt)/\∀ p,z7k (z89 hs ws op dt) p=(z7o (z7j hs p) (z7j ws p)).map (z88 op dt):=by
 obtain⟨i1,i2⟩:=z7r (hs.length+ws.length) hs ws (Zd _) h1.srt h2.srt h1.valid h2.valid;refine⟨z7e i1 fun _=>rfl,fun p=>?_⟩;show z73 Syn.kt (List.map _ _) p=_
 rw[z7f (k:=Syn.kt) (kb:=Syn.kt) (f:=z88 op dt) (fun _=>rfl)];exact congrArg _ (i2 p)
end
def z8e:List zA:=[⟨#[47,47,100,47,97]⟩,⟨#[47,47,100,47,97,47,97]⟩,⟨#[47,47,100,47,98]⟩,⟨#[47,47,100,47,120,47,97]⟩,⟨#[47,47,100,47,120,47,98]⟩,⟨#[47,47,101,47,97]⟩]
theorem z8f:z71 (fun q:zA=>q) z8e:=by
 unfold z71 z8e;simp only[ZP,Zn,ZO,or_false,forall_eq_or_imp,forall_eq]
 refine⟨⟨?_,?_,?_,?_,?_⟩,⟨?_,?_,?_,?_⟩,⟨?_,?_,?_⟩,⟨?_,?_⟩,?_,?_⟩ <;> first | decide +kernel | (intro a ha;cases ha) | exact⟨fun a h=>(by cases h),List.Pairwise.nil⟩
theorem z8g:∀ p∈z8e,z5f p=true:=by decide +kernel
structure z8h (f:zA->Option zA):Prop where
 kt:∀ p∈z8e,∀ l,f p=some l->z5f l=true
 inj:∀ p∈z8e,∀ q∈z8e,∀ l,f p=some l->f q=some l->p=q
def z8i (D:List Rev)(f:zA->Option zA)(m:Int)(p:zA):Option Hav:=
 match z38 D p (fun v:Rev=>decide (v.chg<=m)) with
 | none=>none
 | some r=>if z32 r.act then (f p).map (fun l=>⟨p,r.num,l⟩) else none
def z8j (D:List Rev)(f:zA->Option zA)(m:Int):List Hav:=z8e.filterMap (z8i D f m)
theorem z8k {D:List Rev}{p:zA}{t:Rev->Bool}{r:Rev}(h:z38 D p t=some r):r∈D/\r.kt=p/\t r=true:=by
 unfold z38 at h;suffices H:∀(l:List Rev) (o:Option Rev),(∀ x,o=some x->x∈D/\x.kt=p/\t x=true)->(∀ x∈l,x∈D)->∀ r,l.foldl (fun o r=>if r.kt=p/\t r=true then (match o with | none=>some r | some b=>if b.num<r.num then some r else some b) else o) o=some r->r∈D/\r.kt=p/\t r=true from
  H D none (fun x e=>by cases e) (fun x hx=>hx) r h
 intro l;induction l with
 | nil=>intro o ho _ r hr;exact ho r hr
 | cons a l ih =>
  intro o ho hl r hr;rw[List.foldl_cons] at hr;refine ih _ (fun x hx=>?_) (fun x hx=>hl x (Zh _ hx)) r hr;split at hx
  ·rename_i hc
   have ha:a∈D/\a.kt=p/\t a=true:=⟨hl a (Zj ..),hc.1,hc.2⟩;cases o with
   | none=>rw[<- Option.some.inj hx];exact ha
   | some b =>
    simp only at hx
    split at hx
    ·rw[<- Option.some.inj hx];exact ha
    ·rw[<- Option.some.inj hx];exact ho b rfl
  ·exact ho x hx
theorem z8l {D:List Rev}{f:zA->Option zA}{m:Int}{p:zA}{h:Hav}(e:z8i D f m p=some h):h.kt=p/\f p=some h.loc/\∃ r∈D,r.kt=p/\r.num=h.num/\z38 D p (fun v:Rev=>decide (v.chg<=m))=some r/\z32 r.act=true:=by
 unfold z8i at e;cases hg:z38 D p (fun v:Rev=>decide (v.chg<=m)) with
 | none=>rw[hg] at e;cases e
 | some r =>
  rw[hg] at e;simp only at e
  cases hl:z32 r.act with
  | false=>rw[hl] at e;cases e
  | true =>
   rw[hl,if_pos rfl,Yg] at e;obtain⟨l,e1,e2⟩:=e;subst e2;obtain⟨m1,m2,-⟩:=z8k hg;exact⟨rfl,e1,r,m1,m2,rfl,rfl,hl⟩
theorem z8m {D:List Rev}{f:zA->Option zA}{m:Int}(hn:∀ r∈D,1<=r.num)(hf:z8h f):z81 (z8j D f m):=by
 have hm:∀ x∈z8j D f m,∃ p∈z8e,z8i D f m p=some x:=fun x hx=>Yf.1 hx;refine⟨?_,fun x hx=>?_,fun x hx y hy e=>?_⟩
 ·unfold z8j;have:∀ qs:List zA,z71 (fun q:zA=>q) qs->z7h (qs.filterMap (z8i D f m)):=by
   intro qs;induction qs with
   | nil=>intro _;exact List.Pairwise.nil
   | cons q qs ih =>
    intro hq;rw[List.filterMap_cons];split
    ·exact ih hq.tail
    ·rename_i x hx
     refine ZP.2 ⟨fun b hb=>?_,ih hq.tail⟩;obtain⟨p,hp,e⟩:=Yf.1 hb;rw[(z8l hx).1,(z8l e).1];exact hq.head p hp
  exact this _ z8f
 ·obtain⟨p,hp,e⟩:=hm x hx;obtain⟨e1,e2,r,r1,r2,r3,-⟩:=z8l e;unfold Hav.okB;rw[e1,z8g p hp,hf.kt p hp _ e2];have:=hn r r1;simp
  omega
 ·obtain⟨p,hp,e1⟩:=hm x hx;obtain⟨q,hq,e2⟩:=hm y hy;obtain⟨a1,a2,-⟩:=z8l e1;obtain⟨b1,b2,-⟩:=z8l e2;rw[a1,b1];rw[e] at a2;exact hf.inj p hp q hq _ a2 b2
theorem z8n {D:List Rev}{f:zA->Option zA}{m:Int}:∀ x∈z8j D f m,x.kt∈z8e:=fun x hx=>by
 obtain⟨p,hp,e⟩:=Yf.1 hx;rw[(z8l e).1];exact hp
theorem z8o {D:List Rev}{f:zA->Option zA}{m:Int}:(z8j D f m).length<=6:=by
 unfold z8j;exact Zf (List.length_filterMap_le ..) (by decide)
def c_ (t:List UInt8):zA:=⟨([47,47,99,47]++t).toArray⟩
def w_ (t:List UInt8):zA:=⟨([47,47,119,47]++t).toArray⟩
def fwdT:Nat->List (Option zA)
 | 0=>[some (c_ [97]),some (c_ [97,47,97]),some (c_ [98]),some (c_ [120,47,97]),some (c_ [120,47,98]),none]
 | 1=>[some (c_ [97]),some (c_ [97,47,97]),some (c_ [98]),none,none,none]
 | 2=>[none,none,none,some (c_ [97]),some (c_ [98]),some (w_ [97])]
 | 3=>[some (c_ [98]),none,some (c_ [97]),some (c_ [120,47,97]),some (c_ [120,47,98]),none]
 | 4=>[some (c_ [97]),none,some (c_ [98]),none,none,some (c_ [101])]
 | 5=>[none,some (w_ [97,47,122]),none,some (w_ [120,47,122]),none,some (c_ [97])]
 | 6=>[some (c_ [97]),some (c_ [97,47,97]),some (c_ [98]),some (c_ [120,47,97]),some (c_ [120,47,98]),some (w_ [97])]
 | _=>[none,none,none,none,none,none]
def z8p (k:Nat)(p:zA):Option zA:=((z8e.zip (fwdT k)).find? (fun x=>decide (x.1=p))).bind (·.2)
theorem z8q (k:Nat):z8h (z8p k):=by
 have h:∀ k<8,(∀ p∈z8e,∀ l,z8p k p=some l->z5f l=true)/\∀ p∈z8e,∀ q∈z8e,(z8p k p).isSome=true->z8p k p=z8p k q->p=q:=by
  have a:∀ k<8,∀ p∈z8e,((z8p k p).map z5f).getD true=true:=by decide +kernel
  have b:∀ k<8,∀ p∈z8e,∀ q∈z8e,(z8p k p).isSome=true->z8p k p=z8p k q->p=q:=by decide +kernel
  exact fun k hk=>⟨fun p hp l e=>by have:=a k hk p hp;rw[e] at this;exact this,b k hk⟩
 by_cases hk:k<8
 ·exact⟨(h k hk).1,fun p hp q hq l e1 e2=>(h k hk).2 p hp q hq (by rw[e1];rfl) (e1.trans e2.symm)⟩
 ·have e:fwdT k=fwdT 7:=by
   match k,hk with
   | k+8,_=>rfl
   | 0,hk=>exact absurd (by decide) hk
   | 1,hk=>exact absurd (by decide) hk
   | 2,hk=>exact absurd (by decide) hk
   | 3,hk=>exact absurd (by decide) hk
   | 4,hk=>exact absurd (by decide) hk
   | 5,hk=>exact absurd (by decide) hk
   | 6,hk=>exact absurd (by decide) hk
   | 7,hk=>exact absurd (by decide) hk
  have e2:z8p k=z8p 7:=by funext p;unfold z8p;rw[e]
  rw[e2];exact⟨(h 7 (by decide)).1,fun p hp q hq l e1 e2=>(h 7 (by decide)).2 p hp q hq (by rw[e1];rfl) (e1.trans e2.symm)⟩
def zlv (p:Pat)(i:Nat):zA:=(p.kp[i]?).getD ⟨#[42]⟩
def zlw (base h:Pat)(n:Nat):Bool:=(List.range h.kp.length).all fun i=>decide (n<=i) || zbl (zlv base i) (zad h.kp i)
def zlx (base:Pat)(hs:List Pat)(n:Nat):Bool:=hs.any fun h=>zhk h n && zlw base h n
def zly (base:Pat)(hs:List Pat):Prop:=∀ n,zhk base n=true->zlx base hs n=true
theorem zlz {base h:Pat}{n:Nat}:zlw base h n=true↔∀ i (hi:i<h.kp.length),i<n->zbl (zlv base i) h.kp[i]=true:=by
 unfold zlw;rw[ZB];constructor
 ·intro H i hi hn;have:=H i (List.mem_range.2 hi);rw[Bool.or_eq_true,decide_eq_true_eq] at this;rcases this with h1 | h1
  ·omega
  ·rwa [zas hi] at h1
 ·intro H i hi;have hi:=List.mem_range.1 hi;rw[Bool.or_eq_true,decide_eq_true_eq,zas hi];by_cases hn:n<=i
  ·exact .inl hn
  ·exact .inr (H i hi (by omega))
theorem cov_wi {base h k:Pat}{n:Nat}(hw:Wi h k)(hc:zlw base h n=true):zlw base k n=true:=
 zlz.2 fun i hi hn=>zhe (zlz.1 hc i (Zq hi hw.le) hn) (hw.all i hi)
theorem zm0 {base:Pat}{hs:List Pat}{n:Nat}:zlx base hs n=true↔∃ h∈hs,zhk h n=true/\zlw base h n=true:=by
 unfold zlx;rw[List.any_eq_true];constructor
 ·rintro⟨h,h1,h2⟩;rw[Zw] at h2;exact⟨h,h1,h2⟩
 ·rintro⟨h,h1,h2⟩;exact⟨h,h1,by rw[Zw];exact h2⟩
theorem zm1 {base:Pat}{hs ks:List Pat}(h1:∀ k∈ks,k∈hs)(h2:∀ h∈hs,∃ k∈ks,Wi h k):zly base hs↔zly base ks:=by
 constructor
 ·intro H n hn;obtain⟨h,m,r,c⟩:=zm0.1 (H n hn);obtain⟨k,hk,hw⟩:=h2 h m;exact zm0.2 ⟨k,hk,hw.reach n r,cov_wi hw c⟩
 ·intro H n hn;obtain⟨k,m,r,c⟩:=zm0.1 (H n hn);exact zm0.2 ⟨k,h1 k m,r,c⟩
theorem zm2 {base:Pat}{hs:List Pat}{L n:Nat}(hL:∀ h∈hs,h.kp.length<=L)(hn:L<n)(H:zlx base hs (L+1)=true):zlx base hs n=true:=by
 obtain⟨h,m,r,c⟩:=zm0.1 H;have hl:=hL h m;refine zm0.2 ⟨h,m,?_,zlz.2 fun i hi _=>zlz.1 c i hi (by omega)⟩
 cases hr:h.kr with
 | true=>rw[zhl hr];exact decide_eq_true (by omega)
 | false =>
  rw[zhm hr] at r;have:=of_decide_eq_true r;omega
theorem void_no {base:Pat}{hs:List Pat}(hr:base.kr=false):zly base hs↔zlx base hs base.kp.length=true:=by
 constructor
 ·intro H;exact H _ (by rw[zhm hr];exact decide_eq_true rfl)
 ·intro H n hn;rw[zhm hr] at hn;rw[of_decide_eq_true hn];exact H
theorem zm3 {base:Pat}{hs:List Pat}{L:Nat}(hr:base.kr=true)(hb:base.kp.length<=L)(hL:∀ h∈hs,h.kp.length<=L):zly base hs↔∀ n,base.kp.length<n->n<=L+1->zlx base hs n=true:=by
 constructor
 ·intro H n hn _;exact H n (by rw[zhl hr];exact decide_eq_true hn)
 ·intro H n hn;rw[zhl hr] at hn;have hn:=of_decide_eq_true hn;by_cases h:n<=L+1
  ·exact H n hn h
  ·exact zm2 hL (by omega) (H (L+1) (by omega) (Zd _))
def zqa:Hav:=⟨z2r,0,z2r⟩
def HgPost (w:zW)(o:Option Hav)(e:Ending)(w':zW):Prop:=e=.returned (.tuple #[.agg #[zS (o.getD zqa).kt,zI (o.getD zqa).num,zS (o.getD zqa).loc],.bool o.isSome])/\zB w w'
theorem gk34_at {k:Hav->zA}{l:List Hav}{p:zA}{i:Nat}(hi:i<l.length)(h:∀ j (hj:j<l.length),j<i->k l[j]≠p)(e:k l[i]=p):z73 k l p=some l[i]:=by
 unfold z73;rw[List.find?_eq_some_iff_getElem];exact⟨by simpa using e,i,hi,rfl,fun j hj=>by simpa using h j (by omega) hj⟩
theorem zqb {k:Hav->zA}{l:List Hav}{p:zA}(h:∀ j (hj:j<l.length),k l[j]≠p):z73 k l p=none:=z79.2 fun a ha=>by
 obtain⟨j,hj,rfl⟩:=ZF ha;exact h j hj
theorem zqc (l:List Hav)(v:zV)(s:zA)(w:zW)(hL:z5s w v l)(hl:l.length<=1000000):
  Calls Tryz.prog 39 #[v,zS s] w (HgPost w (z73 Hav.loc l s)):=by
 obtain⟨A,c,rfl,-⟩:=id hL;have hA:zB w (w.alloc (zC #[zS ⟨#[]⟩,zI 0,zS ⟨#[]⟩] 84)):=zR;have HB:Hid (Blk _ _ 84 [zS ⟨#[]⟩,zI 0,zS ⟨#[]⟩]):=hd_ (z0l w _ _);have HA:=hd_ hA;have HL:=hd_ hL;clear hL hA;go_enter Tryz.func39,Tryz.ntmps39;go_upto_region 1 with fail;generalize w.alloc (zC #[zS ⟨#[]⟩,zI 0,zS ⟨#[]⟩] 84)=W1 at HA HB |-;go_wp2_with fail;go_loop [6] (fun i=>∃ k:Nat,i=zI k/\k<=l.length/\Hid (∀ j (hj:j<l.length),j<k->l[j].loc≠s)) (fun i=>l.length - (intOf i).toNat)
 exact⟨0,rfl,Zg _,hd_ (fun j _ h=>by omega)⟩
 obtain⟨k,rfl,hk,HI⟩:=hrel;obtain⟨f0,f1,f2⟩:=(⟨HB.out.frozen 0,HB.out.frozen 1,HB.out.frozen 2⟩:W1.frozen? ⟨w.heap.size,0,none⟩=false/\W1.frozen? ⟨w.heap.size,1,none⟩=false/\W1.frozen? ⟨w.heap.size,2,none⟩=false);obtain⟨z0,z1,z2⟩:=(⟨HB.out.cell 0,HB.out.cell 1,HB.out.cell 2⟩:W1.cell? ⟨w.heap.size,0,none⟩=some (zS ⟨#[]⟩)/\W1.cell? ⟨w.heap.size,1,none⟩=some (zI 0)/\W1.cell? ⟨w.heap.size,2,none⟩=some (zS ⟨#[]⟩));by_cases hlt:k<l.length
 ·obtain⟨ad,rfl,hab,s0,s1,s2⟩:=z5s.at_ (Row.kw HL.out HA.out) hlt;have HNX:Hid (l[k].loc≠s->∀ j (hj:j<l.length),j<k+1->l[j].loc≠s):=hd_ fun h j hj hjk=>by
   by_cases e:j=k
   ·subst e;exact h
   ·exact HI j hj (by omega)
  have HYE:=hd_ (gk34_at (k:=Hav.loc) (p:=s) hlt HI);generalize l[k]=x at s0 s1 s2 HNX HYE;have HLT:=hd_ hlt;by_cases h1:x.loc=s
  ·have q1:(x.loc.toList == s.toList)=true:=by rw[z5m,decide_eq_true h1]
   have HR:=hd_ (HYE h1);clear h1;go_wp2_with fail;have hE:=((HB.out.set_ 0 (zS x.kt)).set_ 1 (zI x.num)).set_ 2 (zS x.loc);have hb:=((HA.out.setCell (p:=⟨w.heap.size,0,none⟩) (by simp) (zS x.kt)).setCell (p:=⟨w.heap.size,1,none⟩) (by simp) (zI x.num)).setCell (p:=⟨w.heap.size,2,none⟩) (by simp) (zS x.loc)
   generalize ((W1.setCell ⟨w.heap.size,0,none⟩ (zS x.kt)).setCell ⟨w.heap.size,1,none⟩ (zI x.num)).setCell ⟨w.heap.size,2,none⟩ (zS x.loc)=W8 at hE hb |-;have e0:=hE.cell 0;have e1:=hE.cell 1;have e2:=hE.cell 2;exact bodyPost_ret (v:=.tuple #[.agg #[zS x.kt,zI x.num,zS x.loc],.bool true]) (by simp [results,Tryz.results39,go_sem,e0,e1,e2]) rfl ⟨by rw[HR.out];rfl,hb⟩
  ·have q1:(x.loc.toList == s.toList)=false:=by rw[z5m,decide_eq_false h1]
   have HN:=hd_ (HNX h1);clear h1;go_wp2_with fail;go_round
   exact⟨k+1,by go_num,by have:=HLT.out;omega,HN⟩
   have:=HLT.out;simp [intOf];omega
 ·have hke:k=l.length:=by omega
  subst hke;have HR:=hd_ (zqb (k:=Hav.loc) (p:=s) (fun j hj=>HI j hj hj));go_wp2_with fail;have hE:=((HB.out.set_ 0 (zS ⟨#[]⟩)).set_ 1 (zI 0)).set_ 2 (zS ⟨#[]⟩);have hb:=((HA.out.setCell (p:=⟨w.heap.size,0,none⟩) (by simp) (zS ⟨#[]⟩)).setCell (p:=⟨w.heap.size,1,none⟩) (by simp) (zI 0)).setCell (p:=⟨w.heap.size,2,none⟩) (by simp) (zS ⟨#[]⟩)
  generalize ((W1.setCell ⟨w.heap.size,0,none⟩ (zS ⟨#[]⟩)).setCell ⟨w.heap.size,1,none⟩ (zI 0)).setCell ⟨w.heap.size,2,none⟩ (zS ⟨#[]⟩)=W8 at hE hb |-;have e0:=hE.cell 0;have e1:=hE.cell 1;have e2:=hE.cell 2;exact bodyPost_ret (v:=.tuple #[.agg #[zS ⟨#[]⟩,zI 0,zS ⟨#[]⟩],.bool false]) (by simp [results,Tryz.results39,go_sem,e0,e1,e2]) rfl ⟨by rw[HR.out];rfl,hb⟩
