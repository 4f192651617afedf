/- A part. -/
import Derived.Test.YtijghobkkdbhnaaGreatDoorMcw14
import Derived.Test.YtijghobkkdbhnaaGreatDoorMcw15
import Derived.Test.YtijghobkkdbhnaaGreatDoorMcw16
import Derived.ProofKit
import Derived.OpenShut
import Derived.ShutString
import Derived.ChangeOld
import Derived.Deep.Slices
import Derived.Deep.Fields
import Derived.ChangeSlices
set_option linter.unusedVariables false
set_option linter.unusedSimpArgs false
set_option maxHeartbeats 8000000
set_option maxRecDepth 100000
namespace Go.Proofs.YtijghobkkdbhnaaGreatDoor
open Go.RowKit
structure RtSt (w wr:World)(ce:List Value)(rv:Value)(rb:Bool)(v:Value)(n:Nat)(xs:List Value):Prop where
 low:zB w wr
 ent:Blk wr w.heap.size 71 ce
 res:Blk wr (w.heap.size+1) 78 [.slice none 0 0,.bool false,.slice none 0 0]
 box:Blk wr (w.heap.size+1+1) 78 [rv,.bool rb,v]
 own:wr.ownsRow (w.heap.size+1+1+1) 68 2 v n xs
theorem RtSt.under {w wr wx:World}{ce:List Value}{rv:Value}{rb:Bool}{v:Value}{n:Nat}{xs:List Value}(h:RtSt w wr ce rv rb v n xs)(hb:zB wr wx):RtSt w wx ce rv rb v n xs:=
 ⟨z0r h.low hb,h.ent.below hb h.ent.lt,h.res.below hb h.res.lt,h.box.below hb h.box.lt,z0n h.own hb⟩
def RtPost (w:World)(rv:Value)(rb:Bool)(e:Ending)(w':World):Prop:=zB w w'∧∃ A n c,e=.returned (.tuple #[.agg #[rv,.bool rb,.slice A n c],.int .i64 0])
theorem zd0 (l r:Pat)(hs:List zco)(A C H:Option Addr)(a c hc:Nat)(w:World)(hl:z9j w (.slice A l.parts.length a) l)(hr:z9j w (.slice C r.parts.length c) r)(hh:zcp w (.slice H hs.length hc) hs)(hn:hs.length≤1000)(h0:hs.length=0):
  Calls Tryz.prog 67 #[.agg #[.slice A l.parts.length a,.bool l.rest,.slice C r.parts.length c,.bool r.rest,.slice H hs.length hc]] w (RtPost w (.slice C r.parts.length c) r.rest):=by
 obtain⟨W1,hW1⟩:∃ W,W=(w.alloc (.cells #[.slice A l.parts.length a,.bool l.rest,.slice C r.parts.length c,.bool r.rest,.slice H hs.length hc] 71)).alloc (.cells #[.slice none 0 0,.bool false,.slice none 0 0] 78):=⟨_,rfl⟩;have hA:zB w W1:=by rw[hW1];exact ((Below.refl _ _).alloc (Nat.le_refl _) _).alloc (by simp) _
 have h1:Blk W1 w.heap.size 71 [.slice A l.parts.length a,.bool l.rest,.slice C r.parts.length c,.bool r.rest,.slice H hs.length hc]:=by rw[hW1];exact (z0l w _ _).alloc _
 have h2:Blk W1 (w.heap.size+1) 78 [.slice none 0 0,.bool false,.slice none 0 0]:=by
  rw[hW1];have:=z0l (w.alloc (.cells #[.slice A l.parts.length a,.bool l.rest,.slice C r.parts.length c,.bool r.rest,.slice H hs.length hc] 71)) [.slice none 0 0,.bool false,.slice none 0 0] 78;simp only[World.size_alloc] at this
  exact this
 have hs1:W1.heap.size=w.heap.size+1+1:=by rw[hW1];simp
 have HS:Hid (RtSt w (W1.alloc (.cells #[.slice C r.parts.length c,.bool r.rest,.slice none 0 0] 78)) [.slice A l.parts.length a,.bool l.rest,.slice C r.parts.length c,.bool r.rest,.slice H hs.length hc] (.slice C r.parts.length c) r.rest (.slice none 0 0) 0 []):=hd_ (by
  refine⟨hA.alloc hA.size _,h1.alloc _,h2.alloc _,?_,World.ownsRow_nil _ _ _ _⟩;have:=z0l W1 [.slice C r.parts.length c,.bool r.rest,.slice none 0 0] 78;rw[hs1] at this;exact this)
 obtain⟨y2,y3⟩:=(⟨h1.cell 2,h1.cell 3⟩:W1.cell? ⟨w.heap.size,2,none⟩=some (.slice C r.parts.length c)∧W1.cell? ⟨w.heap.size,3,none⟩=some (.bool r.rest));have HL:=hd_ hl;have HR:=hd_ hr;have HH:=hd_ hh;have HZN:=hd_ h0;have HW1:=hd_ hW1;have HS1:=hd_ hs1;clear hl hr hh h0 hW1 hA h1 h2 hs1;go_enter Tryz.func67,Tryz.ntmps67;go_upto_region 1 with fail;rw[← HW1.out];go_upto_region 2 with fail;rw[HS1.out];generalize W1.alloc (.cells #[.slice C r.parts.length c,.bool r.rest,.slice none 0 0] 78)=W3 at HS ⊢;clear y2 y3;have y4:W3.cell? ⟨w.heap.size,4,none⟩=some (.slice H hs.length hc):=HS.out.ent.cell 4;go_wp2_with fail;go_loopw [16] (fun i wr=>∃(k n:Nat) (v:Value) (xs:List Value),i=.int .i64 k∧k≤hs.length∧n≤k∧Hid (RtSt w wr [.slice A l.parts.length a,.bool l.rest,.slice C r.parts.length c,.bool r.rest,.slice H hs.length hc] (.slice C r.parts.length c) r.rest v n xs)) (fun i _=>hs.length - (intOf i).toNat)
 case atStart=>exact⟨0,0,_,_,rfl,Nat.zero_le _,Nat.le_refl _,HS⟩
 case round =>
  obtain⟨k,n,v,xs,rfl,hk,hnk,HI⟩:=hrel;clear y4 HS;by_cases hlt:k<hs.length
  ·have:=HZN.out;omega
  ·have hke:k=hs.length:=by omega
   subst hke;obtain⟨Av,cv,rfl⟩:=z0o HI.out.own;obtain⟨d0,d1,d2⟩:=(⟨HI.out.box.cell 0,HI.out.box.cell 1,HI.out.box.cell 2⟩:wr.cell? ⟨w.heap.size+1+1,0,none⟩=some (.slice C r.parts.length c)∧wr.cell? ⟨w.heap.size+1+1,1,none⟩=some (.bool r.rest)∧wr.cell? ⟨w.heap.size+1+1,2,none⟩=some (.slice Av n cv));obtain⟨z0,z1,z2⟩:=(⟨HI.out.res.cell 0,HI.out.res.cell 1,HI.out.res.cell 2⟩:wr.cell? ⟨w.heap.size+1,0,none⟩=some (.slice none 0 0)∧wr.cell? ⟨w.heap.size+1,1,none⟩=some (.bool false)∧wr.cell? ⟨w.heap.size+1,2,none⟩=some (.slice none 0 0));obtain⟨f0,f1,f2⟩:=(⟨HI.out.res.frozen 0,HI.out.res.frozen 1,HI.out.res.frozen 2⟩:wr.frozen? ⟨w.heap.size+1,0,none⟩=false∧wr.frozen? ⟨w.heap.size+1,1,none⟩=false∧wr.frozen? ⟨w.heap.size+1,2,none⟩=false);have hge:¬((hs.length:Int)<(hs.length:Int)):=by omega
   go_wp2_with fail;have hE:=((HI.out.res.set_ 0 (.slice C r.parts.length c)).set_ 1 (.bool r.rest)).set_ 2 (.slice Av n cv);have hb:=((HI.out.low.setCell (p:=⟨w.heap.size+1,0,none⟩) (by simp) (.slice C r.parts.length c)).setCell (p:=⟨w.heap.size+1,1,none⟩) (by simp) (.bool r.rest)).setCell (p:=⟨w.heap.size+1,2,none⟩) (by simp) (.slice Av n cv)
   generalize ((wr.setCell ⟨w.heap.size+1,0,none⟩ (.slice C r.parts.length c)).setCell ⟨w.heap.size+1,1,none⟩ (.bool r.rest)).setCell ⟨w.heap.size+1,2,none⟩ (.slice Av n cv)=W8 at hE hb ⊢;have e0:=hE.cell 0;have e1:=hE.cell 1;have e2:=hE.cell 2;exact bodyPost_ret (v:=.tuple #[.agg #[.slice C r.parts.length c,.bool r.rest,.slice Av n cv],.int .i64 0]) (by simp [results,Tryz.results67,go_sem,e0,e1,e2]) rfl ⟨hb,Av,n,cv,rfl⟩
def zf0:List ByteArray:=[⟨#[47,47,100,47,97]⟩,⟨#[47,47,100,47,97,47,97]⟩,⟨#[47,47,100,47,98]⟩,⟨#[47,47,100,47,120,47,97]⟩,⟨#[47,47,100,47,120,47,98]⟩,⟨#[47,47,101,47,97]⟩]
theorem zf1:z63 (fun q:ByteArray=>q) zf0:=by
 unfold z63 zf0;simp only[List.pairwise_cons,List.mem_cons,List.not_mem_nil,or_false,forall_eq_or_imp,forall_eq]
 refine⟨⟨?_,?_,?_,?_,?_⟩,⟨?_,?_,?_,?_⟩,⟨?_,?_,?_⟩,⟨?_,?_⟩,?_,?_⟩ <;> first | decide +kernel | (intro a ha;cases ha) | exact⟨fun a h=>(by cases h),List.Pairwise.nil⟩
theorem zf2:∀ p∈zf0,z3v p=true:=by decide +kernel
structure zf3 (f:ByteArray→Option ByteArray):Prop where
 path:∀ p∈zf0,∀ l,f p=some l→z3v l=true
 inj:∀ p∈zf0,∀ q∈zf0,∀ l,f p=some l→f q=some l→p=q
def zf4 (D:List Rev)(f:ByteArray→Option ByteArray)(m:Int)(p:ByteArray):Option Hav:=
 match z36 D p (fun v:Rev=>decide (v.chg≤m)) with
 | none=>none
 | some r=>if z30 r.act then (f p).map (fun l=>⟨p,r.num,l⟩) else none
def zf5 (D:List Rev)(f:ByteArray→Option ByteArray)(m:Int):List Hav:=zf0.filterMap (zf4 D f m)
theorem zf6 {D:List Rev}{p:ByteArray}{t:Rev→Bool}{r:Rev}(h:z36 D p t=some r):r∈D∧r.path=p∧t r=true:=by
 unfold z36 at h;suffices H:∀(l:List Rev) (o:Option Rev),(∀ x,o=some x→x∈D∧x.path=p∧t x=true)→(∀ x∈l,x∈D)→∀ r,l.foldl (fun o r=>if r.path=p∧t r=true then (match o with | none=>some r | some b=>if b.num<r.num then some r else some b) else o) o=some r→r∈D∧r.path=p∧t r=true from
  H D none (fun x e=>by cases e) (fun x hx=>hx) r h
 intro l;induction l with
 | nil=>intro o ho _ r hr;exact ho r hr
 | cons a l ih =>
  intro o ho hl r hr;rw[List.foldl_cons] at hr;refine ih _ (fun x hx=>?_) (fun x hx=>hl x (List.mem_cons_of_mem _ hx)) r hr;split at hx
  ·rename_i hc
   have ha:a∈D∧a.path=p∧t a=true:=⟨hl a (List.mem_cons_self ..),hc.1,hc.2⟩;cases o with
   | none=>rw[← Option.some.inj hx];exact ha
   | some b =>
    simp only at hx
    split at hx
    ·rw[← Option.some.inj hx];exact ha
    ·rw[← Option.some.inj hx];exact ho b rfl
  ·exact ho x hx
theorem zf7 {D:List Rev}{f:ByteArray→Option ByteArray}{m:Int}{p:ByteArray}{h:Hav}(e:zf4 D f m p=some h):h.path=p∧f p=some h.loc∧∃ r∈D,r.path=p∧r.num=h.num∧z36 D p (fun v:Rev=>decide (v.chg≤m))=some r∧z30 r.act=true:=by
 unfold zf4 at e;cases hg:z36 D p (fun v:Rev=>decide (v.chg≤m)) with
 | none=>rw[hg] at e;cases e
 | some r =>
  rw[hg] at e;simp only at e
  cases hl:z30 r.act with
  | false=>rw[hl] at e;cases e
  | true =>
   rw[hl,if_pos rfl,Option.map_eq_some_iff] at e;obtain⟨l,e1,e2⟩:=e;subst e2;obtain⟨m1,m2,-⟩:=zf6 hg;exact⟨rfl,e1,r,m1,m2,rfl,rfl,hl⟩
theorem zf8 {D:List Rev}{f:ByteArray→Option ByteArray}{m:Int}(hn:∀ r∈D,1≤r.num)(hf:zf3 f):zek (zf5 D f m):=by
 have hm:∀ x∈zf5 D f m,∃ p∈zf0,zf4 D f m p=some x:=fun x hx=>List.mem_filterMap.1 hx;refine⟨?_,fun x hx=>?_,fun x hx y hy e=>?_⟩
 ·unfold zf5;have:∀ qs:List ByteArray,z63 (fun q:ByteArray=>q) qs→z6i (qs.filterMap (zf4 D f m)):=by
   intro qs;induction qs with
   | nil=>intro _;exact List.Pairwise.nil
   | cons q qs ih =>
    intro hq;rw[List.filterMap_cons];split
    ·exact ih hq.tail
    ·rename_i x hx
     refine List.pairwise_cons.2 ⟨fun b hb=>?_,ih hq.tail⟩;obtain⟨p,hp,e⟩:=List.mem_filterMap.1 hb;rw[(zf7 hx).1,(zf7 e).1];exact hq.head p hp
  exact this _ zf1
 ·obtain⟨p,hp,e⟩:=hm x hx;obtain⟨e1,e2,r,r1,r2,r3,-⟩:=zf7 e;unfold Hav.okB;rw[e1,zf2 p hp,hf.path p hp _ e2];have:=hn r r1;simp
  omega
 ·obtain⟨p,hp,e1⟩:=hm x hx;obtain⟨q,hq,e2⟩:=hm y hy;obtain⟨a1,a2,-⟩:=zf7 e1;obtain⟨b1,b2,-⟩:=zf7 e2;rw[a1,b1];rw[e] at a2;exact hf.inj p hp q hq _ a2 b2
theorem zf9 {D:List Rev}{f:ByteArray→Option ByteArray}{m:Int}:∀ x∈zf5 D f m,x.path∈zf0:=fun x hx=>by
 obtain⟨p,hp,e⟩:=List.mem_filterMap.1 hx;rw[(zf7 e).1];exact hp
theorem zfa {D:List Rev}{f:ByteArray→Option ByteArray}{m:Int}:(zf5 D f m).length≤6:=by
 unfold zf5;exact Nat.le_trans (List.length_filterMap_le ..) (by decide)
def c_ (t:List UInt8):ByteArray:=⟨([47,47,99,47]++t).toArray⟩
def w_ (t:List UInt8):ByteArray:=⟨([47,47,119,47]++t).toArray⟩
def fwdT:Nat→List (Option ByteArray)
 | 0=>[some (c_ [97]),some (c_ [97,47,97]),some (c_ [98]),some (c_ [120,47,97]),some (c_ [120,47,98]),none]
 | 1=>[some (c_ [97]),some (c_ [97,47,97]),some (c_ [98]),none,none,none]
 | 2=>[none,none,none,some (c_ [97]),some (c_ [98]),some (w_ [97])]
 | 3=>[some (c_ [98]),none,some (c_ [97]),some (c_ [120,47,97]),some (c_ [120,47,98]),none]
 | 4=>[some (c_ [97]),none,some (c_ [98]),none,none,some (c_ [101])]
 | 5=>[none,some (w_ [97,47,122]),none,some (w_ [120,47,122]),none,some (c_ [97])]
 | 6=>[some (c_ [97]),some (c_ [97,47,97]),some (c_ [98]),some (c_ [120,47,97]),some (c_ [120,47,98]),some (w_ [97])]
 | _=>[none,none,none,none,none,none]
def zfb (k:Nat)(p:ByteArray):Option ByteArray:=((zf0.zip (fwdT k)).find? (fun x=>decide (x.1=p))).bind (·.2)
theorem zfc (k:Nat):zf3 (zfb k):=by
 have h:∀ k<8,(∀ p∈zf0,∀ l,zfb k p=some l→z3v l=true)∧∀ p∈zf0,∀ q∈zf0,(zfb k p).isSome=true→zfb k p=zfb k q→p=q:=by
  have a:∀ k<8,∀ p∈zf0,((zfb k p).map z3v).getD true=true:=by decide +kernel
  have b:∀ k<8,∀ p∈zf0,∀ q∈zf0,(zfb k p).isSome=true→zfb k p=zfb k q→p=q:=by decide +kernel
  exact fun k hk=>⟨fun p hp l e=>by have:=a k hk p hp;rw[e] at this;exact this,b k hk⟩
 by_cases hk:k<8
 ·exact⟨(h k hk).1,fun p hp q hq l e1 e2=>(h k hk).2 p hp q hq (by rw[e1];rfl) (e1.trans e2.symm)⟩
 ·have e:fwdT k=fwdT 7:=by
   match k,hk with
   | k+8,_=>rfl
   | 0,hk=>exact absurd (by decide) hk
   | 1,hk=>exact absurd (by decide) hk
   | 2,hk=>exact absurd (by decide) hk
   | 3,hk=>exact absurd (by decide) hk
   | 4,hk=>exact absurd (by decide) hk
   | 5,hk=>exact absurd (by decide) hk
   | 6,hk=>exact absurd (by decide) hk
   | 7,hk=>exact absurd (by decide) hk
  have e2:zfb k=zfb 7:=by funext p;unfold zfb;rw[e]
  rw[e2];exact⟨(h 7 (by decide)).1,fun p hp q hq l e1 e2=>(h 7 (by decide)).2 p hp q hq (by rw[e1];rfl) (e1.trans e2.symm)⟩
theorem zg9 {p:ByteArray}(h:p=knA∨p=knB):z2x p=true∧p.size≤200∧p.size≤140737488355328:=by
 rcases h with rfl | rfl
 ·exact⟨by decide,by decide,by decide⟩
 ·exact⟨by decide,by decide,by decide⟩
theorem knEvery (g bl be bn:Nat)(Ae:Option Addr)(ce:Nat)(w:World)(hk:Chk w g (.slice none 0 0) (.slice none 0 0) 1 ⟨#[]⟩ ⟨#[]⟩ (.slice Ae 2 ce) (.slice none 0 0) bl be bn)(hL:z7t w bl zg8)(hne:bl≠be)(hE:KnE w Ae ce){F:ByteArray→Option Edt}(hM:z7u w be F):
  Calls Tryz.prog 141 #[.pointer (some ⟨g,0,none⟩)] w fun e w'=>e=.returned (.int .i64 0)∧w.grownBy w' (some be):=by
 obtain⟨-,-,-,k5,-,-,-,-⟩:=z4g hk;have hobj:=z2k.obj hM;have HE:=hd_ hE;have HK:=hd_ hk;have HL:=hd_ hL;have HM:=hd_ hM;clear hE hk hL hM;go_enter Tryz.func141,Tryz.ntmps141;go_wp2_with fail;go_loopw [3,13] (fun b i wr=>∃(k:Nat) (b0:ByteArray) (F:ByteArray→Option Edt),i=.int .i64 k∧k≤2∧b=.string b0∧b0.size≤200∧Hid ((k=0→b0=z2q)∧(k=1→b0=knA))∧w.grownBy wr (some be)∧z7u wr be F) (fun _ i _=>2 - (intOf i).toNat)
 case atStart=>exact⟨0,z2q,F,rfl,by omega,rfl,by decide,hd_ ⟨fun _=>rfl,fun e=>by cases e⟩,World.grownBy.refl _ _,HM.out⟩
 case round =>
  obtain⟨k,b0,G,rfl,hk,rfl,hb0,HB0,hg,hM⟩:=hrel;have hKr:=Blk.turn HK.out hobj hg;have hLr:=z2k.grown HL.out hg (by intro e;injection e with e;exact hne e)
  have hEr:KnE wr Ae ce:=Row.turn HE.out (by decide) hobj hg
  by_cases hlt:k<2
  ·obtain⟨ad,p,rfl,hab,⟨x0,x1,x2,x3,x4,x5,x6,x7,x8,x9,x10,x11⟩,hp0,hp1⟩:=hEr.at_ k hlt;have hpp:p=knA∨p=knB:=by
    rcases (by omega:k=0∨k=1) with h | h
    ·exact .inl (hp0 h)
    ·exact .inr (hp1 h)
   obtain⟨hv,h200,hxs⟩:=zg9 hpp;have HST:Hid ((k+1=0→p=z2q)∧(k+1=1→p=knA)):=hd_ ⟨fun e=>by omega,fun e=>hp0 (by omega)⟩
   have hcase:b0=z2q∨(b0≠z2q∧z2z b0 p<0):=by
    rcases (by omega:k=0∨k=1) with h | h
    ·exact .inl (HB0.out.1 h)
    ·rw[HB0.out.2 h,hp1 h];exact .inr ⟨by decide,by decide⟩
   have hgx:=hg.trans (zag ((Below.refl wr.heap.size wr).alloc (Nat.le_refl _) (.cells #[.string p,.int .i64 1,.int .i64 1,.bool false,.bool false,.bool false,.int .u64 1,.int .i64 1,.int .i64 0,.string ⟨#[]⟩,.int .i64 0,.int .i64 0] 100)) _);have HVA:=hd_ (fun W=>zai p true hv W hxs);have hX:=z0l wr [.string p,.int .i64 1,.int .i64 1,.bool false,.bool false,.bool false,.int .u64 1,.int .i64 1,.int .i64 0,.string ⟨#[]⟩,.int .i64 0,.int .i64 0] 100;have hKx:=Blk.alloc hKr (.cells #[.string p,.int .i64 1,.int .i64 1,.bool false,.bool false,.bool false,.int .u64 1,.int .i64 1,.int .i64 0,.string ⟨#[]⟩,.int .i64 0,.int .i64 0] 100);have hLx:=z2k.alloc hLr (.cells #[.string p,.int .i64 1,.int .i64 1,.bool false,.bool false,.bool false,.int .u64 1,.int .i64 1,.int .i64 0,.string ⟨#[]⟩,.int .i64 0,.int .i64 0] 100);have hMx:=z2k.alloc hM (.cells #[.string p,.int .i64 1,.int .i64 1,.bool false,.bool false,.bool false,.int .u64 1,.int .i64 1,.int .i64 0,.string ⟨#[]⟩,.int .i64 0,.int .i64 0] 100);have qs:¬(200:Int)<(p.size:Int):=by omega
   have qs':¬ 200<p.size:=by omega
   have q2:decide ((k:Int)<2)=true:=by simp;omega
   have h200':=h200;clear hv hp0 hp1 hpp hKr hLr hEr hM HB0 h200;rcases hcase with hbe | ⟨hbe,hcp⟩
   ·have s1:=zdn hbe;clear hbe;go_wp2_with fail;refine (HVA.out _).mono ?_;rintro e w1 ⟨rfl,rfl⟩;go_upto_region 9 with fail;clear s1 x0 x1 x2 x3 x4 x5 x6 x7 x8 x9 x10 x11;generalize wr.alloc (.cells #[.string p,.int .i64 1,.int .i64 1,.bool false,.bool false,.bool false,.int .u64 1,.int .i64 1,.int .i64 0,.string ⟨#[]⟩,.int .i64 0,.int .i64 0] 100)=W1 at hgx hX hKx hLx hMx ⊢;generalize wr.heap.size=g5 at hX ⊢;obtain⟨c0,c1,c2,c3,c4,c5,c6,c7,c8,c9,c10,c11⟩:=z81 hX;have HON:=hd_ (knOne p g bl be bn (some ad) ce _ hKx hLx);go_wp2_with fail;refine HON.out.mono ?_;rintro e w2 ⟨rfl,hb2⟩;have hX2:=hX.below hb2 hX.lt;have hg2:=hgx.trans (zag hb2 _);have hK2:=Blk.below hKx hb2 (Blk.lt hKx);have hM2:=z2k.below hMx hb2;obtain⟨w3,hup,hM3,hg3,hs3⟩:=z2k.update (w:=w2.drew) hM2 z7s Tryz.underlying201 p (knE p);have hup':(Instr.mapUpdate 201 (.map (some be)) (.string p) (.agg #[.string p,.int .i64 1,.int .i64 1,.bool false,.bool false,.bool false,.int .u64 1,.int .i64 1,.int .i64 0,.string ⟨#[]⟩,.int .i64 0,.int .i64 0])).run Tryz.prog w2.drew=.ok () w3:=hup;have hX3:=Blk.grown (w:=w2.drew) hX2 hg3 (by intro e;injection e with e;subst e;obtain⟨_,_,ho⟩:=z2k.obj hM2;unfold Blk at hX2;rw[ho] at hX2;cases hX2)
    have hgw3:w.grownBy w3 (some be):=(hg2.trans (zag (Below.refl _ _).drew _)).trans hg3;obtain⟨-,-,-,-,-,-,k8,-⟩:=z4g hK2;clear c0 c1 c2 c3 c4 c5 c6 c7 c8 c9 c10 c11;obtain⟨c0,c1,c2,c3,c4,c5,c6,c7,c8,c9,c10,c11⟩:=z81 hX2;clear hup;go_wp2_with fail;go_still_tail 7,(by kernel_rfl)
    change wpList _ _ _ _ _ w2.drew;clear c0 c1 c2 c3 c4 c5 c6 c7 c8 c9 c10 c11;obtain⟨c0,c1,c2,c3,c4,c5,c6,c7,c8,c9,c10,c11⟩:=z81 hX3;go_wp2_with fail;go_roundw
    case rel=>exact⟨k+1,p,_,by go_num,by omega,rfl,by omega,HST,hgw3,hM3⟩
    case measure=>simp [intOf];omega
   ·have s1:=zdo hbe;have s2:=zdp hbe;clear hbe;have HCP:=hd_ (z3r b0 p (wr.alloc (.cells #[.string p,.int .i64 1,.int .i64 1,.bool false,.bool false,.bool false,.int .u64 1,.int .i64 1,.int .i64 0,.string ⟨#[]⟩,.int .i64 0,.int .i64 0] 100)) (by omega) hxs)
    have qc:¬ 0≤z2z b0 p:=by omega
    go_wp2_with fail;refine (HVA.out _).mono ?_;rintro e w1 ⟨rfl,rfl⟩;go_wp2_with fail;refine HCP.out.mono ?_;rintro e w1 ⟨rfl,hq1⟩;have hb1:=hq1.below (World.heap (wr.alloc (.cells #[.string p,.int .i64 1,.int .i64 1,.bool false,.bool false,.bool false,.int .u64 1,.int .i64 1,.int .i64 0,.string ⟨#[]⟩,.int .i64 0,.int .i64 0] 100))).size;have hX:=hX.below hb1 hX.lt;have hKx:=Blk.below hKx hb1 (Blk.lt hKx);have hLx:=z2k.below hLx hb1;have hMx:=z2k.below hMx hb1;have hgx:=hgx.trans (zag hb1 _);clear hq1 hb1;go_upto_region 9 with fail;clear s1 s2 qc hcp x0 x1 x2 x3 x4 x5 x6 x7 x8 x9 x10 x11;have W1:=w1;generalize wr.heap.size=g5 at hX ⊢;obtain⟨c0,c1,c2,c3,c4,c5,c6,c7,c8,c9,c10,c11⟩:=z81 hX;have HON:=hd_ (knOne p g bl be bn (some ad) ce _ hKx hLx);go_wp2_with fail;refine HON.out.mono ?_;rintro e w2 ⟨rfl,hb2⟩;have hX2:=hX.below hb2 hX.lt;have hg2:=hgx.trans (zag hb2 _);have hK2:=Blk.below hKx hb2 (Blk.lt hKx);have hM2:=z2k.below hMx hb2;obtain⟨w3,hup,hM3,hg3,hs3⟩:=z2k.update (w:=w2.drew) hM2 z7s Tryz.underlying201 p (knE p);have hup':(Instr.mapUpdate 201 (.map (some be)) (.string p) (.agg #[.string p,.int .i64 1,.int .i64 1,.bool false,.bool false,.bool false,.int .u64 1,.int .i64 1,.int .i64 0,.string ⟨#[]⟩,.int .i64 0,.int .i64 0])).run Tryz.prog w2.drew=.ok () w3:=hup;have hX3:=Blk.grown (w:=w2.drew) hX2 hg3 (by intro e;injection e with e;subst e;obtain⟨_,_,ho⟩:=z2k.obj hM2;unfold Blk at hX2;rw[ho] at hX2;cases hX2)
    have hgw3:w.grownBy w3 (some be):=(hg2.trans (zag (Below.refl _ _).drew _)).trans hg3;obtain⟨-,-,-,-,-,-,k8,-⟩:=z4g hK2;clear c0 c1 c2 c3 c4 c5 c6 c7 c8 c9 c10 c11;obtain⟨c0,c1,c2,c3,c4,c5,c6,c7,c8,c9,c10,c11⟩:=z81 hX2;clear hup;go_wp2_with fail;go_still_tail 7,(by kernel_rfl)
    change wpList _ _ _ _ _ w2.drew;clear c0 c1 c2 c3 c4 c5 c6 c7 c8 c9 c10 c11;obtain⟨c0,c1,c2,c3,c4,c5,c6,c7,c8,c9,c10,c11⟩:=z81 hX3;go_wp2_with fail;go_roundw
    case rel=>exact⟨k+1,p,_,by go_num,by omega,rfl,by omega,HST,hgw3,hM3⟩
    case measure=>simp [intOf];omega
  ·have q2:decide ((k:Int)<2)=false:=by simp;omega
   go_wp2_with fail;go_ret;exact⟨rfl,hg⟩
def zl5:List Hav→ByteArray→Nat×Bool
 | [],_=>(0,false)
 | x :: l,p=>if x.path=p then (0,true) else if 0<z2z x.path p then (0,false) else ((zl5 l p).1+1,(zl5 l p).2)
def zl6 (l:List Hav)(h:Hav):List Hav:=l.take (zl5 l h.path).1++h :: l.drop ((zl5 l h.path).1+if (zl5 l h.path).2 then 1 else 0)
theorem zl7:∀(l:List Hav) (p:ByteArray),(zl5 l p).1≤l.length∧((zl5 l p).2=true→(zl5 l p).1<l.length)
 | [],_=>⟨Nat.le_refl _,fun h=>by cases h⟩
 | x :: l,p=>by
  obtain⟨h1,h2⟩:=zl7 l p;unfold zl5;split
  ·exact⟨Nat.zero_le _,fun _=>Nat.succ_pos _⟩
  ·split
   ·exact⟨Nat.zero_le _,fun h=>by cases h⟩
   ·exact⟨Nat.succ_le_succ h1,fun h=>Nat.succ_lt_succ (h2 h)⟩
theorem zl8 {p:ByteArray}:∀ {l:List Hav} {k:Nat} (hk:k<l.length),(∀ j (hj:j<l.length),j<k→l[j].path≠p∧¬ 0<z2z l[j].path p) →
  (l[k].path=p→zl5 l p=(k,true))∧(l[k].path≠p→0<z2z l[k].path p→zl5 l p=(k,false))
 | [],k,hk,_=>absurd hk (by simp)
 | x :: l,0,_,_=>by
  refine⟨fun e=>?_,fun e h=>?_⟩
  ·unfold zl5;rw[if_pos (show x.path=p from e)]
  ·unfold zl5;rw[if_neg (show ¬ x.path=p from e),if_pos (show 0<z2z x.path p from h)]
 | x :: l,k+1,hk,h=>by
  obtain⟨h1,h2⟩:=h 0 (Nat.succ_pos _) (Nat.succ_pos _);have h1':¬ x.path=p:=h1;have h2':¬ 0<z2z x.path p:=h2;obtain⟨i1,i2⟩:=zl8 (l:=l) (k:=k) (by simpa using hk) fun j hj hjk=>h (j+1) (by simpa using hj) (by omega)
  rw[List.getElem_cons_succ];refine⟨fun e=>?_,fun e h=>?_⟩
  ·unfold zl5;rw[if_neg h1',if_neg h2',i1 e]
  ·unfold zl5;rw[if_neg h1',if_neg h2',i2 e h]
theorem zl9 {p:ByteArray}:∀ {l:List Hav},(∀ j (hj:j<l.length),l[j].path≠p∧¬ 0<z2z l[j].path p)→zl5 l p=(l.length,false)
 | [],_=>rfl
 | x :: l,h=>by
  obtain⟨h1,h2⟩:=h 0 (Nat.succ_pos _);have h1':¬ x.path=p:=h1;have h2':¬ 0<z2z x.path p:=h2;have i:=zl9 (l:=l) (p:=p) fun j hj=>h (j+1) (by simpa using hj)
  unfold zl5;rw[if_neg h1',if_neg h2',i];rfl
theorem zla (x:Hav)(l:List Hav)(h:Hav):zl6 (x :: l) h=if x.path=h.path then h :: l else if 0<z2z x.path h.path then h :: x :: l else x :: zl6 l h:=by
 unfold zl6;rw[zl5];by_cases h1:x.path=h.path
 ·rw[if_pos h1,if_pos h1];rfl
 ·rw[if_neg h1,if_neg h1];by_cases h2:0<z2z x.path h.path
  ·rw[if_pos h2,if_pos h2];rfl
  ·rw[if_neg h2,if_neg h2];show x :: (l.take _++h :: (x :: l).drop _)=_
   rw[show (zl5 l h.path).1+1+(if (zl5 l h.path).2=true then 1 else 0)=(zl5 l h.path).1+(if (zl5 l h.path).2=true then 1 else 0)+1 by omega,List.drop_succ_cons]
theorem zlb:∀(l:List Hav) (h x:Hav),x∈zl6 l h→x=h∨x∈l
 | [],h,x,hx=>by
  have hx':x∈[h]:=hx;exact .inl (List.mem_singleton.1 hx')
 | y :: l,h,x,hx=>by
  rw[zla] at hx;split at hx
  ·rcases List.mem_cons.1 hx with e | e
   ·exact .inl e
   ·exact .inr (List.mem_cons_of_mem _ e)
  ·split at hx
   ·rcases List.mem_cons.1 hx with e | e
    ·exact .inl e
    ·exact .inr e
   ·rcases List.mem_cons.1 hx with e | e
    ·exact .inr (by rw[e];exact List.mem_cons_self ..)
    ·rcases zlb l h x e with e | e
     ·exact .inl e
     ·exact .inr (List.mem_cons_of_mem _ e)
theorem zlc (l:List Hav)(h:Hav):(zl6 l h).length≤l.length+1:=by
 unfold zl6;rw[List.length_append,List.length_take,List.length_cons,List.length_drop];split <;> omega
theorem zld:∀(l:List Hav) (h:Hav),z6i l→(∀ x∈l,z2x x.path=true)→z2x h.path=true→z6i (zl6 l h)∧∀ p,z6k (zl6 l h) p=if p=h.path then some h else z6k l p
 | [],h,_,_,_=>by
  refine⟨List.pairwise_singleton _ _,fun p=>?_⟩;show z64 Hav.path [h] p=_
  rw[z69];by_cases e:p=h.path
  ·rw[if_pos e.symm,if_pos e]
  ·rw[if_neg (fun e2=>e e2.symm),if_neg e]
 | x :: l,h,hs,hv,hh=>by
  have hvx:=hv x (List.mem_cons_self ..);rw[zla];by_cases h1:x.path=h.path
  ·rw[if_pos h1];refine⟨List.pairwise_cons.2 ⟨fun b hb=>?_,hs.tail⟩,fun p=>?_⟩
   ·rw[← h1];exact hs.head b hb
   ·show z64 Hav.path (h :: l) p=if p=h.path then some h else z64 Hav.path (x :: l) p
    rw[z69,z69,h1];by_cases e:p=h.path
    ·rw[if_pos e.symm,if_pos e]
    ·rw[if_neg (fun e2=>e e2.symm),if_neg e,if_neg (fun e2=>e e2.symm)]
  ·rw[if_neg h1];by_cases h2:0<z2z x.path h.path
   ·rw[if_pos h2];have h3:z2z h.path x.path<0:=by rw[z5w];omega
    refine⟨List.pairwise_cons.2 ⟨fun b hb=>?_,hs⟩,fun p=>?_⟩
    ·rcases List.mem_cons.1 hb with e | e
     ·rw[e];exact h3
     ·exact z5l hh hvx (hv b (List.mem_cons_of_mem _ e)) h3 (hs.head b e)
    ·show z64 Hav.path (h :: x :: l) p=_
     rw[z69];by_cases e:p=h.path
     ·rw[if_pos e.symm,if_pos e]
     ·rw[if_neg (fun e2=>e e2.symm),if_neg e]
   ·rw[if_neg h2];have h3:z2z x.path h.path<0:=by
     rcases Int.lt_or_le (z2z x.path h.path) 0 with h | h
     ·exact h
     ·exact absurd (z6r hvx hh (by omega) h2) h1
    obtain⟨i1,i2⟩:=zld l h hs.tail (fun y hy=>hv y (List.mem_cons_of_mem _ hy)) hh;refine⟨List.pairwise_cons.2 ⟨fun b hb=>?_,i1⟩,fun p=>?_⟩
    ·rcases zlb l h b hb with e | e
     ·rw[e];exact h3
     ·exact hs.head b e
    ·show z64 Hav.path (x :: zl6 l h) p=if p=h.path then some h else z64 Hav.path (x :: l) p
     rw[z69,z69];have i2':=i2 p;by_cases e:x.path=p
     ·rw[if_pos e,if_pos e,if_neg (fun e2=>h1 (e.trans e2))]
     ·rw[if_neg e,if_neg e];exact i2'
def zle (D:List Rev)(f:ByteArray→Option ByteArray)(m:Int)(k:Nat)(out:List Hav):Prop:=
 z6i out∧(∀ x∈out,x.path∈zf0)∧(∀ x∈out,zf4 D f m x.path=some x)∧∀(j:Nat) (hj:j<D.length),j<k→∀ h,zf4 D f m D[j].path=some h→h∈out
theorem refW_0 (D:List Rev)(f:ByteArray→Option ByteArray)(m:Int):zle D f m 0 []:=⟨List.Pairwise.nil,(fun x h=>by cases h),(fun x h=>by cases h),fun j _ h=>by omega⟩
theorem refW_no {D:List Rev}{f:ByteArray→Option ByteArray}{m:Int}{k:Nat}{out:List Hav}(h:zle D f m k out)(hk:k<D.length)(e:zf4 D f m D[k].path=none):zle D f m (k+1) out:=
 ⟨h.1,h.2.1,h.2.2.1,fun j hj hjk x hx=>by
  by_cases ej:j=k
  ·subst ej;rw[e] at hx;cases hx
  ·exact h.2.2.2 j hj (by omega) x hx⟩
theorem zlf {p:ByteArray}(h:p∈zf0):z2x p=true:=(zem (zf2 p h)).1
theorem zlg {D:List Rev}{f:ByteArray→Option ByteArray}{m:Int}{k:Nat}{out:List Hav}{x:Hav}(h:zle D f m k out)(hk:k<D.length)(h6:∀ r∈D,r.path∈zf0)(e:zf4 D f m D[k].path=some x):zle D f m (k+1) (zl6 out x):=by
 obtain⟨h1,h2,h3,h4⟩:=h;have hxp:x.path=D[k].path:=(zf7 e).1;have hx6:x.path∈zf0:=by rw[hxp];exact h6 _ (List.getElem_mem hk)
 obtain⟨i1,i2⟩:=zld out x h1 (fun y hy=>zlf (h2 y hy)) (zlf hx6);have hmem:∀ y,y∈zl6 out x↔y=x∨(y∈out∧y.path≠x.path):=by
  intro y;constructor
  ·intro hy;have hg:=z6b i1 hy;have hg':z6k (zl6 out x) y.path=some y:=hg;rw[i2] at hg';by_cases ey:y.path=x.path
   ·rw[if_pos ey] at hg';exact .inl (Option.some.inj hg').symm
   ·rw[if_neg ey] at hg';exact .inr ⟨(z67 hg').1,ey⟩
  ·rintro (rfl | ⟨hy,ey⟩)
   ·have:=i2 y.path;rw[if_pos rfl] at this;exact (z67 this).1
   ·have:=i2 y.path;rw[if_neg ey] at this;have hg:z6k out y.path=some y:=z6b h1 hy;rw[hg] at this;exact (z67 this).1
 refine⟨i1,fun y hy=>?_,fun y hy=>?_,fun j hj hjk y hy=>?_⟩
 ·rcases (hmem y).1 hy with rfl | ⟨a,_⟩
  ·exact hx6
  ·exact h2 y a
 ·rcases (hmem y).1 hy with rfl | ⟨a,_⟩
  ·rw[hxp];exact e
  ·exact h3 y a
 ·by_cases ep:D[j].path=D[k].path
  ·rw[ep,e] at hy;exact (hmem y).2 (.inl (Option.some.inj hy).symm)
  ·have hjk2:j≠k:=fun ee=>ep (by subst ee;rfl)
   have hy2:=h4 j hj (by omega) y hy
   refine (hmem y).2 (.inr ⟨hy2,?_⟩);rw[(zf7 hy).1,hxp];exact ep
theorem zlh {D:List Rev}{f:ByteArray→Option ByteArray}{m:Int}{out:List Hav}(h:zle D f m D.length out)(hn:∀ r∈D,1≤r.num)(hf:zf3 f):out=zf5 D f m:=by
 refine z6c h.1 (zf8 hn hf).srt fun x=>⟨fun hx=>?_,fun hx=>?_⟩
 ·exact List.mem_filterMap.2 ⟨x.path,h.2.1 x hx,h.2.2.1 x hx⟩
 ·obtain⟨p,hp,e⟩:=List.mem_filterMap.1 hx;obtain⟨e1,-,r,hr,e3,-⟩:=zf7 e;obtain⟨j,hj,rfl⟩:=List.getElem_of_mem hr;exact h.2.2.2 j hj hj x (by rw[e3];exact e)
theorem zli {D:List Rev}{f:ByteArray→Option ByteArray}{m:Int}{k:Nat}{out:List Hav}(h:zle D f m k out):out.length≤6:=by
 have e:out.map Hav.path=zf0.filter (fun p=>decide (p∈out.map Hav.path)):=z6c (z6f (kb:=fun q:ByteArray=>q) h.1 fun _=>rfl) (z6h zf1 _) fun a=>by
  rw[List.mem_filter,decide_eq_true_eq];refine⟨fun ha=>⟨?_,ha⟩,fun ha=>ha.2⟩;obtain⟨x,hx,rfl⟩:=List.mem_map.1 ha;exact h.2.1 x hx
 have h1:=congrArg List.length e;rw[List.length_map] at h1;rw[h1];exact Nat.le_trans (List.length_filter_le _ _) (by decide)
def zpb (out:List Hav)(x:Syn):List Hav:=
 if x.kind=1∨x.kind=2∨x.kind=3 then zl6 out ⟨x.path,x.num,x.dst⟩ else if x.kind=4 then out.filter (fun a=>decide (a.path≠x.path)) else out
def zpc (x:Syn):Prop:=z3t x.kind=true∨(x.kind=z3u x.frm x.dst∧¬(x.frm=z2q∧x.dst=z2q))
theorem zpd (f d:ByteArray)(h:¬(f=z2q∧d=z2q)):(d≠z2q∧(z3u f d=1∨z3u f d=2∨z3u f d=3))∨(d=z2q∧z3u f d=4):=by
 unfold z3u;by_cases h1:f=z2q
 ·rw[if_pos h1];exact .inl ⟨fun e=>h ⟨h1,e⟩,.inl rfl⟩
 ·rw[if_neg h1];by_cases h2:d=z2q
  ·rw[if_pos h2];exact .inr ⟨h2,rfl⟩
  ·rw[if_neg h2];by_cases h3:f=d
   ·rw[if_pos h3];exact .inl ⟨h2,.inr (.inl rfl)⟩
   ·rw[if_neg h3];exact .inl ⟨h2,.inr (.inr rfl)⟩
theorem zpe {l:List Hav}(h:z6i l)(q p:ByteArray):z6k (l.filter (fun a=>decide (a.path≠q))) p=if p=q then none else z6k l p:=by
 show z64 Hav.path _ p=_
 rw[z6v h];show (z6k l p).filter _=_
 cases e:z6k l p with
 | none=>split <;> rfl
 | some a =>
  have ea:=(z67 e).2;by_cases c:p=q
  ·rw[if_pos c,z6u (by rw[ea];simpa using c)]
  ·rw[if_neg c,z6t (by rw[ea];simpa using c)]
structure zpf (hs:List Hav)(ps:List Syn)(k:Nat)(out:List Hav):Prop where
 srt:z6i out
 val:∀ a∈out,z2x a.path=true
 get:∀ p,z6k out p=ze8 (z6k hs p) (z6l (ps.take k) p)
 len:out.length≤hs.length+k
section
variable {hs : List Hav} {ps : List Syn} {k : Nat} {out : List Hav}
theorem aft_0 (h1:z6i hs)(h2:∀ a∈hs,z2x a.path=true):zpf hs ps 0 hs:=⟨h1,h2,fun p=>by rw[List.take_zero];rfl,Nat.le_refl _⟩
theorem zpg (hk:k<ps.length)(p:ByteArray):z6l (ps.take (k+1)) p=(z6l (ps.take k) p).or (if ps[k].path=p then some ps[k] else none):=by
 rw[List.take_succ_eq_append_getElem hk];show z64 Syn.path _ p=_
 rw[z6a,z69];rfl
theorem zph (h:z6j ps)(hk:k<ps.length):z6l (ps.take k) ps[k].path=none:=z68.2 fun c hc ec=>by
 obtain⟨j,hj,rfl⟩:=List.getElem_of_mem hc;rw[List.getElem_take] at ec;have hjk:j<k:=by rw[List.length_take] at hj;omega
 exact z65 (List.pairwise_iff_getElem.1 h j k (by omega) hk hjk) ec
theorem zpi (h:zpf hs ps k out)(hS:z6j ps)(hk:k<ps.length)(hv:z2x ps[k].path=true)(hK:zpc ps[k]):zpf hs ps (k+1) (zpb out ps[k]):=by
 have hno:=zph hS hk;have hother:∀ p,p≠ps[k].path→z6l (ps.take (k+1)) p=z6l (ps.take k) p:=fun p c=>by
  rw[zpg hk,if_neg (fun e=>c e.symm),Option.or_none]
 have hself:z6l (ps.take (k+1)) ps[k].path=some ps[k]:=by
  rw[zpg hk,if_pos rfl,hno];rfl
 rcases hK with hK | ⟨hK,hne⟩
 ·have e0:zpb out ps[k]=out:=by
   unfold zpb;unfold z3t at hK;simp only[Bool.or_eq_true,beq_iff_eq] at hK
   rw[if_neg (by omega),if_neg (by omega)]
  rw[e0];refine⟨h.srt,h.val,fun p=>?_,by have:=h.len;omega⟩
  rw[h.get p];by_cases c:p=ps[k].path
  ·subst c;rw[hself,hno];show z6k hs _=if z3t ps[k].kind then _ else _
   rw[if_pos hK]
  ·rw[hother p c]
 ·have hst:¬ z3t ps[k].kind=true:=by rw[hK,zeu];decide
  rcases zpd _ _ hne with⟨h1,h2⟩ | ⟨h1,h2⟩
  ·rw[← hK] at h2;have e0:zpb out ps[k]=zl6 out ⟨ps[k].path,ps[k].num,ps[k].dst⟩:=if_pos h2;rw[e0];obtain⟨i1,i2⟩:=zld out ⟨ps[k].path,ps[k].num,ps[k].dst⟩ h.srt h.val hv;refine⟨i1,fun a ha=>?_,fun p=>?_,by have:=zlc out ⟨ps[k].path,ps[k].num,ps[k].dst⟩;have:=h.len;omega⟩
   ·rcases zlb _ _ _ ha with rfl | ha
    ·exact hv
    ·exact h.val a ha
   ·rw[i2 p];by_cases c:p=ps[k].path
    ·rw[if_pos c];subst c;rw[hself];show _=if z3t ps[k].kind then _ else _
     rw[if_neg hst,if_neg h1]
    ·rw[if_neg c,h.get p,hother p c]
  ·rw[← hK] at h2;have e0:zpb out ps[k]=out.filter (fun a=>decide (a.path≠ps[k].path)):=by
    unfold zpb;rw[if_neg (by omega),if_pos h2]
   rw[e0];refine⟨z6h h.srt _,fun a ha=>h.val a (List.mem_filter.1 ha).1,fun p=>?_,by have:=List.length_filter_le (fun a:Hav=>decide (a.path≠ps[k].path)) out;have:=h.len;omega⟩
   rw[zpe h.srt];by_cases c:p=ps[k].path
   ·rw[if_pos c];subst c;rw[hself];show _=if z3t ps[k].kind then _ else _
    rw[if_neg hst,if_pos h1]
   ·rw[if_neg c,h.get p,hother p c]
theorem aft_end (h:zpf hs ps ps.length out)(h1:z6i hs)(h2:∀ a∈hs,z2x a.path=true)(hS:z6j ps)(hv:∀ x∈ps,z2x x.path=true):out=z56 hs ps:=by
 obtain⟨r1,-,r3⟩:=zej (hs.length+ps.length) hs ps (Nat.le_refl _) h1 hS h2 hv;refine z6d h.srt r1 fun p=>?_;have:=h.get p;rw[List.take_length] at this;exact this.trans (r3 p).symm
end
structure zpu (l:List Hav)(i:Nat)(hi:i<l.length):Prop where
 ok:l[i].okB=true
 up:∀ h:0<i,z2z (l[i - 1]'(by omega)).path l[i].path<0
 loc:∀ k (hk:k<i),(l[k]'(by omega)).loc≠l[i].loc
theorem zpv {l:List Hav}(h:∀ i (hi:i<l.length),zpu l i hi):zek l:=by
 have val:∀ i (hi:i<l.length),z2x l[i].path=true:=fun i hi=>(zem (zel (h i hi).ok).1).1;have up:∀ d i (hj:i+d+1<l.length),z2z (l[i]'(by omega)).path l[i+d+1].path<0:=by
  intro d;induction d with
  | zero=>intro i hj;exact (h (i+1) hj).up (by omega)
  | succ d ih =>
   intro i hj;have h1:=ih i (by omega)
   have h2:=(h (i+(d+1)+1) hj).up (by omega)
   have e:i+(d+1)+1 - 1=i+d+1:=by omega
   simp only[e] at h2
   exact z5l (val i (by omega)) (val (i+d+1) (by omega)) (val _ hj) h1 h2
 have srt:z6i l:=List.pairwise_iff_getElem.2 fun i j hi hj hij=>by
  have:=up (j - i - 1) i (by omega)
  have e:i+(j - i - 1)+1=j:=by omega
  simp only[e] at this
  exact this
 refine⟨srt,fun x hx=>?_,fun x hx y hy e=>?_⟩
 ·obtain⟨i,hi,rfl⟩:=List.getElem_of_mem hx;exact (h i hi).ok
 ·obtain⟨i,hi,rfl⟩:=List.getElem_of_mem hx;obtain⟨j,hj,rfl⟩:=List.getElem_of_mem hy;rcases Nat.lt_trichotomy i j with c | c | c
  ·exact absurd e ((h j hj).loc i c)
  ·subst c;rfl
  ·exact absurd e.symm ((h i hi).loc j c)
theorem zpw {l:List Hav}(h:zek l)(i:Nat)(hi:i<l.length):zpu l i hi:=by
 refine⟨h.ok _ (List.getElem_mem hi),fun h0=>List.pairwise_iff_getElem.1 h.srt (i - 1) i (by omega) hi (by omega),fun k hk e=>?_⟩
 have:=h.loc _ (List.getElem_mem (by omega)) _ (List.getElem_mem hi) e
 exact z65 (List.pairwise_iff_getElem.1 h.srt k i (by omega) hi hk) this
structure zpx (hs:List Hav)(ps:List Syn)(i:Nat)(hi:i<ps.length):Prop where
 fit:zi5 ps[i] (zjg hs ps[i].path)=true
 up:∀ h:0<i,z2z (ps[i - 1]'(by omega)).path ps[i].path<0
theorem zpy {x:Syn}{l:ByteArray}(h:zi5 x l=true):z3v x.path=true∧zpc x:=by
 unfold zi5 at h;simp only[Bool.and_eq_true,Bool.not_eq_true',Bool.or_eq_true,beq_iff_eq] at h
 obtain⟨⟨⟨⟨h1,h2⟩,h3⟩,h4⟩,h5⟩:=h;refine⟨h1,?_⟩;rcases h5 with h5 | h5
 ·exact .inl h5
 ·refine .inr ⟨h5,fun ⟨e1,e2⟩=>?_⟩;rw[decide_eq_true e1,decide_eq_true e2] at h3;cases h3
theorem zpz {hs:List Hav}{ps:List Syn}(h:∀ i (hi:i<ps.length),zpx hs ps i hi):z6j ps∧∀ x∈ps,z2x x.path=true:=by
 have val:∀ i (hi:i<ps.length),z2x ps[i].path=true:=fun i hi=>(zem (zpy (h i hi).fit).1).1;have up:∀ d i (hj:i+d+1<ps.length),z2z (ps[i]'(by omega)).path ps[i+d+1].path<0:=by
  intro d;induction d with
  | zero=>intro i hj;exact (h (i+1) hj).up (by omega)
  | succ d ih =>
   intro i hj;have h1:=ih i (by omega)
   have h2:=(h (i+(d+1)+1) hj).up (by omega)
   have e:i+(d+1)+1 - 1=i+d+1:=by omega
   simp only[e] at h2
   exact z5l (val i (by omega)) (val (i+d+1) (by omega)) (val _ hj) h1 h2
 refine⟨List.pairwise_iff_getElem.2 fun i j hi hj hij=>?_,fun x hx=>?_⟩
 ·have:=up (j - i - 1) i (by omega)
  have e:i+(j - i - 1)+1=j:=by omega
  simp only[e] at this
  exact this
 ·obtain⟨i,hi,rfl⟩:=List.getElem_of_mem hx;exact val i hi
open Go.RowKit Go.ChangeShapes Go.WideShapes Go.Deep
section
variable {H : Type} {enc : TypeId × Value → H} {P : Program} {w : World} {spare : Nat → Bool} {held : Bool}
theorem zr8 {w:World}{b:Nat}{x:TypeId×Nat}(h:w.shape? b=some x):b<w.heap.size:=by
 rcases Nat.lt_or_ge b w.heap.size with h1 | h1
 ·exact h1
 ·have:w.heap[b]? = none:=Array.getElem?_eq_none h1;unfold World.shape? at h
  rw[this] at h;cases h
theorem zr9 {t e:TypeId}{r:Reach}{b0:Nat}{v:Value}{d:DataW H}{p:List MemPlace}(ht:P.underlying t=some (.slice e))(he:P.underlying e=some (.int .i64))(hc:P.cellsOf e=1)
  (hv:Value.okWide P w r b0 t v) (h:DataW.Trod enc P w 0 spare held t v d p):
  ∃(l:List Int) (A:Option Addr) (c:Nat),v=.slice A l.length c∧Row w 1 (.slice A l.length c) l.length (l.map fun(n:Int)=>.int .i64 n)∧∀ ad,A=some ad→ad.block<w.heap.size:=by
 obtain⟨a,n,c,rfl⟩:=okWide_slice ht hv;have hlt:∀ ad,a=some ad→ad.block<w.heap.size:=by
  rintro ad rfl;simp only[Value.okWide,ht,Cell.okWide,Cell.ok] at hv
  obtain⟨-,-,-,-,row,cells,hs,-⟩:=hv;exact zr8 hs
 obtain⟨fuel,hf⟩:=h;rcases open_ints ht he hc hf with⟨hcs,_⟩ | ⟨x,l,c',zs,hcs,_,hl,hm,hz,_,hcell,hwz⟩
 ·simp [Value.cells] at hcs
  obtain⟨rfl,rfl,rfl⟩:=hcs;exact⟨[],none,0,rfl,Row.nil_ w 1,fun ad e=>by cases e⟩
 ·simp [Value.cells] at hcs
  obtain⟨rfl,rfl,rfl⟩:=hcs;have hzl:n≤zs.length:=by rw[hz];split <;> omega
  have hlen:(zs.take n).length=n:=by simp;omega
  refine⟨zs.take n,some x,c,by rw[hlen],?_,hlt⟩
  rw[hlen];refine⟨_,_,rfl,hl,hm,by simp;omega,fun h=>(by cases h),fun hn=>⟨x,rfl,hlt x rfl,fun j u hu=>?_⟩⟩
  have hj:j<n:=by
   have:=(List.getElem?_eq_some_iff.1 hu).1;simp at this;omega
  rw[hcell j (by omega),← hu]
  simp only[List.getElem?_map,List.getElem?_take,hj,if_true,List.getElem?_eq_getElem (show j<zs.length by omega),Option.map_some]
  simp only[List.getD_eq_getElem?_getD,List.getElem?_eq_getElem (show j<zs.length by omega),Option.getD_some]
end
theorem env_of {W:World}(h:W.ShapedOpen Tryz.prog):Env W:=Tryz.laysM143.s1_3 W h
