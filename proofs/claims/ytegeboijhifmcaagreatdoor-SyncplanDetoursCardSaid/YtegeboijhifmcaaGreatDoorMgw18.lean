/- A part of the proof. -/
import Derived.Test.YtegeboijhifmcaaGreatDoorMgw17
set_option linter.unusedVariables false
set_option linter.unusedSimpArgs false
set_option maxHeartbeats 8000000
set_option maxRecDepth 100000
namespace Go.Proofs.YtegeboijhifmcaaGreatDoor
open Go.Proofs.Tryz
open Go.RowKit
def zc2 (l r:Pat)(s:ByteArray):Option ByteArray:=(z8e l s).map (zbu r)
def zc3 (w:World)(o:Option ByteArray)(e:Ending)(w':World):Prop:=e=.returned (.tuple #[.string (o.getD ⟨#[]⟩),.bool o.isSome])∧Below w.heap.size w w'
theorem zc4 (l r:Pat)(s:ByteArray)(A B:Option Addr)(a b:Nat)(w:World)(he:Env w)(hs:s.size≤1000000)(hl:za9 w (.slice A l.parts.length a) l)(hr:za9 w (.slice B r.parts.length b) r)(hf:∀ caps,z8e l s=some caps→zbv r caps):
  Calls prog 85 #[.agg #[.slice A l.parts.length a,.bool l.rest],.agg #[.slice B r.parts.length b,.bool r.rest],.string s] w (zc3 w (zc2 l r s)):=by
 have hA:Below w.heap.size w ((w.alloc (.cells #[.slice A l.parts.length a,.bool l.rest] 97)).alloc (.cells #[.slice B r.parts.length b,.bool r.rest] 97)):=((Below.refl _ _).alloc (Nat.le_refl _) _).alloc (by simp) _
 have h2:zbo ((w.alloc (.cells #[.slice A l.parts.length a,.bool l.rest] 97)).alloc (.cells #[.slice B r.parts.length b,.bool r.rest] 97)) w.heap.size (.slice A l.parts.length a) l.rest:=(z0l w [.slice A l.parts.length a,.bool l.rest] 97).alloc _;have h3:zbo ((w.alloc (.cells #[.slice A l.parts.length a,.bool l.rest] 97)).alloc (.cells #[.slice B r.parts.length b,.bool r.rest] 97)) (w.heap.size+1) (.slice B r.parts.length b) r.rest:=by
  have:=z0l (w.alloc (.cells #[.slice A l.parts.length a,.bool l.rest] 97)) [.slice B r.parts.length b,.bool r.rest] 97;rw[World.size_alloc] at this;exact this
 have HM:=hd_ (fun X (hX:Below w.heap.size w X)=>zbk l s A a X (he.below hX) hs (hl.below hX).1 hl.small);have HFI:=hd_ (fun X (hX:Below w.heap.size w X) caps cv (hc:Strs X cv caps) (h:z8e l s=some caps)=>fill_ok r caps B b cv X (he.below hX) (hr.below hX) hc (hf caps h));have HT:Hid (zc2 l r s=(z8e l s).map (zbu r)):=hd_ rfl;clear he hl hr hf;go_enter func85,ntmps85;go_upto_region 1 with fail;generalize (w.alloc (.cells #[.slice A l.parts.length a,.bool l.rest] 97)).alloc (.cells #[.slice B r.parts.length b,.bool r.rest] 97)=W1 at hA h2 h3 ⊢;have x0:=h2.c0;have x1:=h2.c1;have HA:=hd_ hA;have H3:=hd_ h3;have HM1:=hd_ (HM.out W1 hA);clear h2 h3 hA HM;go_wp2_with fail;refine HM1.out.mono ?_;rintro e w2 ⟨A',n,c,rfl,hb,hm⟩;have HB:=hd_ (z0r HA.out hb);have h3:=H3.out.low hb;have y0:=h3.c0;have y1:=h3.c1;clear x0 x1 hb h3 HM1;obtain⟨o,ho⟩:∃ o,z8e l s=o:=⟨_,rfl⟩;have HO:=hd_ ho;rw[ho] at HT hm ⊢;clear ho;cases o with
 | none =>
  have HR:Hid (zc2 l r s=none):=hd_ (by rw[HT.out];rfl)
  clear hm HT;go_wp2_with fail;go_ret2;exact⟨by rw[HR.out];rfl,HB.out⟩
 | some caps =>
  have HR:Hid (zc2 l r s=some (zbu r caps)):=hd_ (by rw[HT.out];rfl)
  obtain⟨rfl,hcs⟩:=hm caps rfl;have HC:=hd_ (HFI.out w2 HB.out caps _ hcs HO.out);generalize zbu r caps=tx at HC HR;clear hm hcs HT HFI;go_wp2_with fail;refine HC.out.mono ?_;rintro e w3 ⟨rfl,hb⟩;have HB3:=hd_ (z0r HB.out hb);clear hb y0 y1;go_wp2_with fail;go_ret2;exact⟨by rw[HR.out];rfl,HB3.out⟩
theorem zc5 (ex:Bool)(l r:Pat)(s:ByteArray)(A B:Option Addr)(a b:Nat)(w:World)(he:Env w)(hs:s.size≤1000000)(hl:za9 w (.slice A l.parts.length a) l)(hr:za9 w (.slice B r.parts.length b) r)(h0:za8 l r=0)(hf:∀ caps,z8e l s=some caps→zbv r caps):
  Calls prog 55 #[.agg #[.bool ex,.slice A l.parts.length a,.bool l.rest,.slice B r.parts.length b,.bool r.rest],.string s] w (zc3 w (zc2 l r s)):=by
 have hB:=z0l w [.bool ex,.slice A l.parts.length a,.bool l.rest,.slice B r.parts.length b,.bool r.rest] 119;have hA:Below w.heap.size w (w.alloc (.cells #[.bool ex,.slice A l.parts.length a,.bool l.rest,.slice B r.parts.length b,.bool r.rest] 119)):=(Below.refl _ _).alloc (Nat.le_refl _) _;have HC:=hd_ (fun X (hX:Below w.heap.size w X)=>zaa ex l r A B a b X (hl.below hX) (hr.below hX));rw[h0] at HC;have HT:=hd_ (fun X (hX:Below w.heap.size w X)=>zc4 l r s A B a b X (he.below hX) hs (hl.below hX) (hr.below hX) hf);clear he hl hr hf h0;generalize zc2 l r s=o at HT ⊢;go_enter func55,ntmps55;go_upto_region 1 with fail;generalize w.alloc (.cells #[.bool ex,.slice A l.parts.length a,.bool l.rest,.slice B r.parts.length b,.bool r.rest] 119)=W1 at hA hB ⊢;obtain⟨d0,d1,d2,d3,d4⟩:=(⟨hB.cell 0,hB.cell 1,hB.cell 2,hB.cell 3,hB.cell 4⟩:W1.cell? ⟨w.heap.size,0,none⟩=some (.bool ex)∧W1.cell? ⟨w.heap.size,1,none⟩=some (.slice A l.parts.length a)∧W1.cell? ⟨w.heap.size,2,none⟩=some (.bool l.rest)∧W1.cell? ⟨w.heap.size,3,none⟩=some (.slice B r.parts.length b)∧W1.cell? ⟨w.heap.size,4,none⟩=some (.bool r.rest));have HB:=hd_ hB;have HA:=hd_ hA;have HC1:=hd_ (HC.out W1 hA);clear hA hB HC;go_wp2_with fail;refine HC1.out.mono ?_;rintro e w2 ⟨rfl,hb⟩;have hB2:=HB.out.below hb HB.out.lt;have HB2:=hd_ (z0r HA.out hb);have HT2:=hd_ (HT.out w2 HB2.out);clear hb d0 d1 d2 d3 d4 HC1 HT;obtain⟨d1,d2,d3,d4⟩:=(⟨hB2.cell 1,hB2.cell 2,hB2.cell 3,hB2.cell 4⟩:w2.cell? ⟨w.heap.size,1,none⟩=some (.slice A l.parts.length a)∧w2.cell? ⟨w.heap.size,2,none⟩=some (.bool l.rest)∧w2.cell? ⟨w.heap.size,3,none⟩=some (.slice B r.parts.length b)∧w2.cell? ⟨w.heap.size,4,none⟩=some (.bool r.rest));clear hB2;go_wp2_with fail;refine HT2.out.mono ?_;rintro e w3 ⟨rfl,hb⟩;have HB3:=hd_ (z0r HB2.out hb);clear hb d1 d2 d3 d4;go_wp2_with fail;go_ret2;exact⟨rfl,HB3.out⟩
def atM (m:Int)(o v:Rev):Rev:=if v.chg≤m then v else o
def rAt (D:List Rev)(p:ByteArray)(m:Int):Rev:=(zgp D p).foldl (atM m) z2m
def gS (p:ByteArray)(f:Rev→Bool)(o:Option Rev)(r:Rev):Option Rev:=if r.path=p∧f r=true then (match o with
  | none=>some r
  | some b=>if b.num<r.num then some r else some b) else o
theorem zh2 (D:List Rev)(p:ByteArray)(f:Rev→Bool):z30 D p f=D.foldl (gS p f) none:=rfl
theorem gS_far {p:ByteArray}{f:Rev→Bool}{o:Option Rev}{r:Rev}(h:¬(r.path=p∧f r=true)):gS p f o r=o:=if_neg h
theorem gS_more {p:ByteArray}{f:Rev→Bool}{o:Option Rev}{r:Rev}(h:r.path=p∧f r=true)(ho:∀ b,o=some b→b.num<r.num):gS p f o r=some r:=by
 unfold gS;rw[if_pos h];cases o with
 | none=>rfl
 | some b=>exact if_pos (ho b rfl)
theorem zh3 (D:List Rev)(p:ByteArray)(f:Rev→Bool):z30 D p f=z30 (zgp D p) p f:=by
 rw[zh2,zh2];unfold zgp;rw[List.foldl_filter];congr 1
 funext o r
 by_cases h:r.path=p
 ·simp [h]
 ·rw[gS_far (fun e=>h e.1)];simp [h]
theorem zh4 (m:Int)(p:ByteArray):∀(l:List Rev) (o:Option Rev),l.Pairwise (fun a b=>a.num<b.num)→(∀ v∈l,0<v.num∧v.path=p)→(∀ b,o=some b→0<b.num∧∀ v∈l,b.num<v.num) →
  zec (l.foldl (gS p (fun v=>decide (v.chg≤m))) o)=l.foldl (atM m) (zec o)∧(l.foldl (gS p (fun v=>decide (v.chg≤m))) o).isSome=decide (0<(l.foldl (atM m) (zec o)).num)
 | [],o,_,_,ho=>by
  refine⟨rfl,?_⟩;cases o with
  | none=>rfl
  | some b=>have:=(ho b rfl).1;simp [zec,this]
 | v :: l,o,hs,hn,ho=>by
  obtain⟨h1,h2⟩:=List.pairwise_cons.1 hs;have hv:=hn v (List.mem_cons_self ..);have hn2:∀ x∈l,0<x.num∧x.path=p:=fun x hx=>hn x (List.mem_cons_of_mem _ hx);rw[List.foldl_cons,List.foldl_cons];by_cases hc:v.chg≤m
  ·have e2:atM m (zec o) v=zec (some v):=by unfold atM;rw[if_pos hc];rfl
   rw[gS_more ⟨hv.2,by simpa using hc⟩ (fun b hb=>(ho b hb).2 v (List.mem_cons_self ..)),e2]
   exact zh4 m p l (some v) h2 hn2 (fun b hb=>by injection hb with hb;subst hb;exact⟨hv.1,h1⟩)
  ·have e2:atM m (zec o) v=zec o:=by unfold atM;rw[if_neg hc]
   rw[gS_far (by simp [hc]),e2]
   exact zh4 m p l o h2 hn2 (fun b hb=>⟨(ho b hb).1,fun x hx=>(ho b hb).2 x (List.mem_cons_of_mem _ hx)⟩)
def Fresh (B:Nat)(v:Value):Prop:=∀ x,v.ownBlock=some x→B≤x
def zh5 (w:World)(revs:List Rev)(p:ByteArray)(e:Ending)(w':World):Prop:=∃ A c,e=.returned (.slice A (zgp revs p).length c)∧Below w.heap.size w w'∧z45 w' (.slice A (zgp revs p).length c) (zgp revs p)∧Fresh w.heap.size (.slice A (zgp revs p).length c)
theorem zh6 (revs:List Rev)(p:ByteArray)(dv dr:Value)(w:World)(hR:z45 w dv revs)(hl:revs.length≤1000000):
  Calls prog 130 #[.agg #[dv,dr],.string p] w (zh5 w revs p):=by
 obtain⟨Ar,cr,rfl,hcr,hmr,-⟩:=id hR;have HR:=hd_ hR;clear hR;unfold maxLen at hmr;go_enter func130,ntmps130;have hB:=z0l w [.slice Ar revs.length cr,dr] 26;have hA:Below w.heap.size w (w.alloc (.cells #[.slice Ar revs.length cr,dr] 26)):=(Below.refl _ _).alloc (Nat.le_refl _) _;go_upto_region 2 with fail;generalize w.alloc (.cells #[.slice Ar revs.length cr,dr] 26)=W1 at hB hA ⊢;obtain⟨d0,-,-,-⟩:=box2 hB;have HA:=hd_ hA;clear hA hB;go_wp2_with fail;clear d0;go_loopw [5,11] (fun u s wr=>∃(k n:Nat) (A:Option Addr) (c:Nat),s=.int .i64 k∧u=.slice A n c∧k≤revs.length∧n≤k∧Hid (n=(zgp (revs.take k) p).length∧Below W1.heap.size W1 wr∧wr.ownsRow W1.heap.size 66 12 (.slice A n c) n ((zgp (revs.take k) p).flatMap Rev.cells))) (fun _ s _=>revs.length - (intOf s).toNat)
 case atStart=>exact⟨0,0,none,0,rfl,rfl,Nat.zero_le _,Nat.le_refl _,rfl,Below.refl _ _,World.ownsRow_nil _ _ _ _⟩
 case round =>
  obtain⟨k,n,A,c,rfl,rfl,hk,hnk,HI⟩:=hrel;by_cases hlt:k<revs.length
  ·obtain⟨ad,rfl,hab,hld⟩:=z45.at_ (HR.out.below (z0r HA.out HI.out.2.1)) hlt;have HT:=hd_ (zgv revs p k hlt);generalize revs[k]=r at hld HT;obtain⟨x0,x1,x2,x3,x4,x5,x6,x7,x8,x9,x10,x11⟩:=hld;have hX:=z0l wr [.string r.path,.int .i64 r.num,.int .i64 r.chg,.int .i64 r.act,.int .i64 r.ty.base,.bool r.ty.k,.bool r.ty.l,.bool r.ty.x,.int .u64 r.sum,.int .i64 r.size,.string r.frm,.int .i64 r.fnum] 66;have hA1:Below wr.heap.size wr (wr.alloc (.cells #[.string r.path,.int .i64 r.num,.int .i64 r.chg,.int .i64 r.act,.int .i64 r.ty.base,.bool r.ty.k,.bool r.ty.l,.bool r.ty.x,.int .u64 r.sum,.int .i64 r.size,.string r.frm,.int .i64 r.fnum] 66)):=(Below.refl _ _).alloc (Nat.le_refl _) _;go_upto_region 5 with fail;clear x0 x1 x2 x3 x4 x5 x6 x7 x8 x9 x10 x11;generalize wr.alloc (.cells #[.string r.path,.int .i64 r.num,.int .i64 r.chg,.int .i64 r.act,.int .i64 r.ty.base,.bool r.ty.k,.bool r.ty.l,.bool r.ty.x,.int .u64 r.sum,.int .i64 r.size,.string r.frm,.int .i64 r.fnum] 66)=V1 at hX hA1 ⊢;obtain⟨y0,y1,y2,y3,y4,y5,y6,y7,y8,y9,y10,y11⟩:=z7z hX;by_cases hp:r.path=p
   ·have q:=ze7 r.path p;rw[decide_eq_true hp] at q;rw[if_pos hp] at HT;have HN:Hid (n=(zgp (revs.take k) p).length∧Below W1.heap.size W1 V1∧V1.ownsRow W1.heap.size 66 12 (.slice A n c) n ((zgp (revs.take k) p).flatMap Rev.cells)):=hd_ ⟨HI.out.1,z0r HI.out.2.1 hA1,z0n HI.out.2.2 hA1⟩;clear hX hA1 hp;go_wp2_with (at_builtin;refine z0k rfl rfl zgt ((z0n HN.out.2.2 ((Below.refl _ _).alloc (Nat.le_refl _) _))) rfl (z0i V1 [.string r.path,.int .i64 r.num,.int .i64 r.chg,.int .i64 r.act,.int .i64 r.ty.base,.bool r.ty.k,.bool r.ty.l,.bool r.ty.x,.int .u64 r.sum,.int .i64 r.size,.string r.frm,.int .i64 r.fnum] _ 12 1 rfl (by decide) _ rfl) rfl (HN.out.2.1.alloc HN.out.2.1.size _) (HN.out.2.1.alloc HN.out.2.1.size _).size (zgx r) (by omega) (by unfold maxLen;omega) ?_;intro A' c' w2 hown2 hbl2)
    have HO2:=hd_ hown2;have HB2:=hd_ hbl2;clear y0 y1 y2 y3 y4 y5 y6 y7 y8 y9 y10 y11 hown2 hbl2;go_wp2_with fail;go_roundw
    case rel =>
     refine⟨k+1,n+1,A',c',by go_num,rfl,by omega,by omega,?_,HB2.out,?_⟩
     ·rw[HT.out,List.length_append,List.length_singleton,← HN.out.1]
     ·rw[HT.out,List.flatMap_append,List.flatMap_cons,List.flatMap_nil,List.append_nil];exact HO2.out
    case measure=>simp [intOf];omega
   ·have q:=ze7 r.path p;rw[decide_eq_false hp] at q;rw[if_neg hp,List.append_nil] at HT;have HN:Hid (n=(zgp (revs.take (k+1)) p).length∧Below W1.heap.size W1 V1∧V1.ownsRow W1.heap.size 66 12 (.slice A n c) n ((zgp (revs.take (k+1)) p).flatMap Rev.cells)):=hd_ (by rw[HT.out];exact⟨HI.out.1,z0r HI.out.2.1 hA1,z0n HI.out.2.2 hA1⟩)
    clear hX hA1 hp HT;go_wp2_with fail;go_roundw
    case rel=>exact⟨k+1,n,A,c,by go_num,rfl,by omega,by omega,HN.out⟩
    case measure=>simp [intOf];omega
  ·have hke:k=revs.length:=by omega
   have HF:Hid (n=(zgp revs p).length∧Below W1.heap.size W1 wr∧wr.ownsRow W1.heap.size 66 12 (.slice A n c) n ((zgp revs p).flatMap Rev.cells)):=hd_ (by
    have:=HI.out;rwa [hke,List.take_length] at this)
   clear HI hke;go_wp2_with fail;go_ret;obtain⟨hn,h1,h2⟩:=HF.out;subst hn;exact⟨A,c,rfl,z0r HA.out h1,Row.of_own h2,fun x e=>Nat.le_trans HA.out.size (h2.lt x e).1⟩
structure AtSt (w wr:World)(g:Nat)(m:Int)(A:Option Addr)(c:Nat)(L:List Rev)(k:Nat):Prop where
 bel:Below w.heap.size w wr
 box1:Blk wr (g+1) 66 [.string ⟨#[]⟩,.int .i64 0,.int .i64 0,.int .i64 0,.int .i64 0,.bool false,.bool false,.bool false,.int .u64 0,.int .i64 0,.string ⟨#[]⟩,.int .i64 0]
 box2:Blk wr (g+1+1) 66 [.string (((L.take k).foldl (atM m) z2m)).path,.int .i64 (((L.take k).foldl (atM m) z2m)).num,.int .i64 (((L.take k).foldl (atM m) z2m)).chg,.int .i64 (((L.take k).foldl (atM m) z2m)).act,.int .i64 (((L.take k).foldl (atM m) z2m)).ty.base,.bool (((L.take k).foldl (atM m) z2m)).ty.k,.bool (((L.take k).foldl (atM m) z2m)).ty.l,.bool (((L.take k).foldl (atM m) z2m)).ty.x,.int .u64 (((L.take k).foldl (atM m) z2m)).sum,.int .i64 (((L.take k).foldl (atM m) z2m)).size,.string (((L.take k).foldl (atM m) z2m)).frm,.int .i64 (((L.take k).foldl (atM m) z2m)).fnum]
 row:z45 wr (.slice A L.length c) L
theorem AtSt.under {w wr X:World}{g:Nat}{m:Int}{A:Option Addr}{c:Nat}{L:List Rev}{k:Nat}(h:AtSt w wr g m A c L k)(hX:Below wr.heap.size wr X):AtSt w X g m A c L k:=
 ⟨z0r h.bel hX,h.box1.below' hX,h.box2.below' hX,h.row.below hX⟩
theorem row12 {w:World}{g size n:Nat}{v:Value}{xs:List Value}(h:Row w size v n xs)(hne:v.ownBlock≠some g)(r:Rev):Row ((((((((((((w.setCell ⟨g,0,none⟩ (.string r.path)).setCell ⟨g,1,none⟩ (.int .i64 r.num)).setCell ⟨g,2,none⟩ (.int .i64 r.chg)).setCell ⟨g,3,none⟩ (.int .i64 r.act)).setCell ⟨g,4,none⟩ (.int .i64 r.ty.base)).setCell ⟨g,5,none⟩ (.bool r.ty.k)).setCell ⟨g,6,none⟩ (.bool r.ty.l)).setCell ⟨g,7,none⟩ (.bool r.ty.x)).setCell ⟨g,8,none⟩ (.int .u64 r.sum)).setCell ⟨g,9,none⟩ (.int .i64 r.size)).setCell ⟨g,10,none⟩ (.string r.frm)).setCell ⟨g,11,none⟩ (.int .i64 r.fnum)) size v n xs:=by
 repeat (refine Row.set_far ?_ hne)
 exact h
theorem at_next (m:Int)(L:List Rev)(k:Nat)(h:k<L.length):(L.take (k+1)).foldl (atM m) z2m=atM m ((L.take k).foldl (atM m) z2m) L[k]:=by
 rw[List.take_succ_eq_append_getElem h,List.foldl_append];rfl
theorem zh7 (revs:List Rev)(p:ByteArray)(m:Int)(dv dr:Value)(w:World)(hR:z45 w dv revs)(hl:revs.length≤1000000):
  Calls prog 94 #[.agg #[dv,dr],.string p,.int .i64 m] w fun e w'=>e=.returned (.tuple #[.agg #[.string ((rAt revs p m)).path,.int .i64 ((rAt revs p m)).num,.int .i64 ((rAt revs p m)).chg,.int .i64 ((rAt revs p m)).act,.int .i64 ((rAt revs p m)).ty.base,.bool ((rAt revs p m)).ty.k,.bool ((rAt revs p m)).ty.l,.bool ((rAt revs p m)).ty.x,.int .u64 ((rAt revs p m)).sum,.int .i64 ((rAt revs p m)).size,.string ((rAt revs p m)).frm,.int .i64 ((rAt revs p m)).fnum],.bool (decide (0<(rAt revs p m).num))])∧Below w.heap.size w w':=by
 obtain⟨Ar,cr,rfl,-⟩:=id hR;have HR:=hd_ hR;clear hR;have HLN:=hd_ (zgw revs p);go_enter func94,ntmps94;have hb0:Below w.heap.size w (((w.alloc (.cells #[.slice Ar revs.length cr,dr] 26)).alloc (.cells #[.string ⟨#[]⟩,.int .i64 0,.int .i64 0,.int .i64 0,.int .i64 0,.bool false,.bool false,.bool false,.int .u64 0,.int .i64 0,.string ⟨#[]⟩,.int .i64 0] 66)).alloc (.cells #[.string ⟨#[]⟩,.int .i64 0,.int .i64 0,.int .i64 0,.int .i64 0,.bool false,.bool false,.bool false,.int .u64 0,.int .i64 0,.string ⟨#[]⟩,.int .i64 0] 66)):=(((Below.refl _ _).alloc (Nat.le_refl _) _).alloc (by simp) _).alloc (by simp;omega) _
 have hB:Blk (((w.alloc (.cells #[.slice Ar revs.length cr,dr] 26)).alloc (.cells #[.string ⟨#[]⟩,.int .i64 0,.int .i64 0,.int .i64 0,.int .i64 0,.bool false,.bool false,.bool false,.int .u64 0,.int .i64 0,.string ⟨#[]⟩,.int .i64 0] 66)).alloc (.cells #[.string ⟨#[]⟩,.int .i64 0,.int .i64 0,.int .i64 0,.int .i64 0,.bool false,.bool false,.bool false,.int .u64 0,.int .i64 0,.string ⟨#[]⟩,.int .i64 0] 66)) w.heap.size 26 [.slice Ar revs.length cr,dr]:=((z0l w _ _).alloc _).alloc _;have hZ:Blk (((w.alloc (.cells #[.slice Ar revs.length cr,dr] 26)).alloc (.cells #[.string ⟨#[]⟩,.int .i64 0,.int .i64 0,.int .i64 0,.int .i64 0,.bool false,.bool false,.bool false,.int .u64 0,.int .i64 0,.string ⟨#[]⟩,.int .i64 0] 66)).alloc (.cells #[.string ⟨#[]⟩,.int .i64 0,.int .i64 0,.int .i64 0,.int .i64 0,.bool false,.bool false,.bool false,.int .u64 0,.int .i64 0,.string ⟨#[]⟩,.int .i64 0] 66)) (w.heap.size+1) 66 [.string ⟨#[]⟩,.int .i64 0,.int .i64 0,.int .i64 0,.int .i64 0,.bool false,.bool false,.bool false,.int .u64 0,.int .i64 0,.string ⟨#[]⟩,.int .i64 0]:=by
  have h1:=(z0l (w.alloc (.cells #[.slice Ar revs.length cr,dr] 26)) [.string ⟨#[]⟩,.int .i64 0,.int .i64 0,.int .i64 0,.int .i64 0,.bool false,.bool false,.bool false,.int .u64 0,.int .i64 0,.string ⟨#[]⟩,.int .i64 0] 66).alloc (.cells #[.string ⟨#[]⟩,.int .i64 0,.int .i64 0,.int .i64 0,.int .i64 0,.bool false,.bool false,.bool false,.int .u64 0,.int .i64 0,.string ⟨#[]⟩,.int .i64 0] 66);simp only[World.size_alloc] at h1
  exact h1
 have hY:Blk (((w.alloc (.cells #[.slice Ar revs.length cr,dr] 26)).alloc (.cells #[.string ⟨#[]⟩,.int .i64 0,.int .i64 0,.int .i64 0,.int .i64 0,.bool false,.bool false,.bool false,.int .u64 0,.int .i64 0,.string ⟨#[]⟩,.int .i64 0] 66)).alloc (.cells #[.string ⟨#[]⟩,.int .i64 0,.int .i64 0,.int .i64 0,.int .i64 0,.bool false,.bool false,.bool false,.int .u64 0,.int .i64 0,.string ⟨#[]⟩,.int .i64 0] 66)) (w.heap.size+1+1) 66 [.string ⟨#[]⟩,.int .i64 0,.int .i64 0,.int .i64 0,.int .i64 0,.bool false,.bool false,.bool false,.int .u64 0,.int .i64 0,.string ⟨#[]⟩,.int .i64 0]:=by
  have h1:=z0l ((w.alloc (.cells #[.slice Ar revs.length cr,dr] 26)).alloc (.cells #[.string ⟨#[]⟩,.int .i64 0,.int .i64 0,.int .i64 0,.int .i64 0,.bool false,.bool false,.bool false,.int .u64 0,.int .i64 0,.string ⟨#[]⟩,.int .i64 0] 66)) [.string ⟨#[]⟩,.int .i64 0,.int .i64 0,.int .i64 0,.int .i64 0,.bool false,.bool false,.bool false,.int .u64 0,.int .i64 0,.string ⟨#[]⟩,.int .i64 0] 66;simp only[World.size_alloc] at h1
  exact h1
 go_upto_region 2 with fail;generalize ((w.alloc (.cells #[.slice Ar revs.length cr,dr] 26)).alloc (.cells #[.string ⟨#[]⟩,.int .i64 0,.int .i64 0,.int .i64 0,.int .i64 0,.bool false,.bool false,.bool false,.int .u64 0,.int .i64 0,.string ⟨#[]⟩,.int .i64 0] 66)).alloc (.cells #[.string ⟨#[]⟩,.int .i64 0,.int .i64 0,.int .i64 0,.int .i64 0,.bool false,.bool false,.bool false,.int .u64 0,.int .i64 0,.string ⟨#[]⟩,.int .i64 0] 66)=W1 at hb0 hB hZ hY ⊢;obtain⟨d0,d1,-,-⟩:=box2 hB;have HL:=hd_ (zh6 revs p (.slice Ar revs.length cr) dr W1 (HR.out.below hb0) hl);have Hb0:=hd_ hb0;have HZ:=hd_ hZ;have HY:=hd_ hY;clear hb0 hZ hB hY;go_wp2_with fail;refine HL.out.mono ?_;rintro e w2 ⟨A,c,rfl,hb2,hL,hf⟩;clear d0 d1;have HAT:Hid (rAt revs p m=(zgp revs p).foldl (atM m) z2m):=hd_ rfl;have hll:(zgp revs p).length≤revs.length:=HLN.out;generalize zgp revs p=L at hL hll hf HAT ⊢;obtain⟨A',c',e',hcc,hmm,-⟩:=id hL;injection e' with e1 e2 e3
 subst e1 e3;unfold maxLen at hmm;have hlt2:=HY.out.lt;have HNE:Hid ((Value.slice A L.length c).ownBlock≠some (w.heap.size+1+1)):=hd_ (fun e=>by have:=hf _ e;omega)
 have HST:Hid (AtSt w w2 w.heap.size m A c L 0):=hd_ ⟨z0r Hb0.out hb2,HZ.out.below' hb2,by rw[List.take_zero];exact HY.out.below' hb2,hL⟩
 clear hb2 hL hf HL e2 hlt2;go_wp2_with fail;go_loopw [15] (fun s wr=>∃ k:Nat,s=.int .i64 k∧k≤L.length∧Hid (AtSt w wr w.heap.size m A c L k)) (fun s _=>L.length - (intOf s).toNat)
 case atStart=>exact⟨0,rfl,Nat.zero_le _,HST.out⟩
 case round =>
  obtain⟨k,rfl,hk,HI⟩:=hrel;by_cases hlt:k<L.length
  ·obtain⟨ad,rfl,hab,hld⟩:=z45.at_ HI.out.row hlt;have HN:=hd_ (at_next m L k hlt);generalize L[k]=r at hld HN;obtain⟨x0,x1,x2,x3,x4,x5,x6,x7,x8,x9,x10,x11⟩:=hld;have hX:=z0l wr [.string r.path,.int .i64 r.num,.int .i64 r.chg,.int .i64 r.act,.int .i64 r.ty.base,.bool r.ty.k,.bool r.ty.l,.bool r.ty.x,.int .u64 r.sum,.int .i64 r.size,.string r.frm,.int .i64 r.fnum] 66;have hA1:Below wr.heap.size wr (wr.alloc (.cells #[.string r.path,.int .i64 r.num,.int .i64 r.chg,.int .i64 r.act,.int .i64 r.ty.base,.bool r.ty.k,.bool r.ty.l,.bool r.ty.x,.int .u64 r.sum,.int .i64 r.size,.string r.frm,.int .i64 r.fnum] 66)):=(Below.refl _ _).alloc (Nat.le_refl _) _;have HS1:=hd_ (HI.out.under hA1);go_upto_region 5 with fail;clear x0 x1 x2 x3 x4 x5 x6 x7 x8 x9 x10 x11;generalize wr.alloc (.cells #[.string r.path,.int .i64 r.num,.int .i64 r.chg,.int .i64 r.act,.int .i64 r.ty.base,.bool r.ty.k,.bool r.ty.l,.bool r.ty.x,.int .u64 r.sum,.int .i64 r.size,.string r.frm,.int .i64 r.fnum] 66)=V1 at hX hA1 HS1 ⊢;obtain⟨x0,x1,x2,x3,x4,x5,x6,x7,x8,x9,x10,x11⟩:=z7z hX;clear hX hA1;by_cases hc:r.chg≤m
   ·have q:decide (r.chg≤m)=true:=by simpa using hc
    have HE:Hid ((L.take (k+1)).foldl (atM m) z2m=r):=hd_ (by rw[HN.out];unfold atM;rw[if_pos hc])
    obtain⟨y0,y1,y2,y3,y4,y5,y6,y7,y8,y9,y10,y11⟩:=zdz HS1.out.box2;obtain⟨z0,z1,z2,z3,z4,z5,z6,z7,z8,z9,z10,z11⟩:=z7z HS1.out.box2;clear hc;go_wp2_with fail;go_roundw
    case rel =>
     refine⟨k+1,by go_num,by omega,ze1 HS1.out.bel (show w.heap.size≤w.heap.size+1+1 by omega) r,far12 HS1.out.box1 (by omega) r,?_,row12 HS1.out.row HNE.out r⟩
     rw[HE.out];exact ze0 HS1.out.box2 r
    case measure=>simp [intOf];omega
   ·have q:decide (r.chg≤m)=false:=by simpa using hc
    have HE:Hid ((L.take (k+1)).foldl (atM m) z2m=(L.take k).foldl (atM m) z2m):=hd_ (by rw[HN.out];unfold atM;rw[if_neg hc])
    clear hc;go_wp2_with fail;go_roundw
    case rel=>exact⟨k+1,by go_num,by omega,HS1.out.bel,HS1.out.box1,by rw[HE.out];exact HS1.out.box2,HS1.out.row⟩
    case measure=>simp [intOf];omega
  ·have hke:k=L.length:=by omega
   obtain⟨r,hr⟩:∃ r,(L.take k).foldl (atM m) z2m=r:=⟨_,rfl⟩;have HAR:Hid (rAt revs p m=r):=hd_ (by rw[HAT.out,← hr,hke,List.take_length])
   have hB2:=HI.out.box2;rw[hr] at hB2;obtain⟨x0,x1,x2,x3,x4,x5,x6,x7,x8,x9,x10,x11⟩:=z7z hB2;obtain⟨y0,y1,y2,y3,y4,y5,y6,y7,y8,y9,y10,y11⟩:=zdz HI.out.box1;obtain⟨z0,z1,z2,z3,z4,z5,z6,z7,z8,z9,z10,z11⟩:=z7z HI.out.box1;have hZ9:=ze0 HI.out.box1 r;have hB9:=ze1 HI.out.bel (show w.heap.size≤w.heap.size+1 by omega) r
   clear hke hr hB2;go_upto_region 8 with fail;refine wp_region_noPanic ?_;go_region_law (fail)
   all_goals
    refine NoPanic.normal ?_;go_wp2_with fail;have hZ8:=Blk.drew' hZ9;have hB8:=hB9.drew;generalize (((((((((((((wr.setCell ⟨w.heap.size+1,0,none⟩ (.string r.path)).setCell ⟨w.heap.size+1,1,none⟩ (.int .i64 r.num)).setCell ⟨w.heap.size+1,2,none⟩ (.int .i64 r.chg)).setCell ⟨w.heap.size+1,3,none⟩ (.int .i64 r.act)).setCell ⟨w.heap.size+1,4,none⟩ (.int .i64 r.ty.base)).setCell ⟨w.heap.size+1,5,none⟩ (.bool r.ty.k)).setCell ⟨w.heap.size+1,6,none⟩ (.bool r.ty.l)).setCell ⟨w.heap.size+1,7,none⟩ (.bool r.ty.x)).setCell ⟨w.heap.size+1,8,none⟩ (.int .u64 r.sum)).setCell ⟨w.heap.size+1,9,none⟩ (.int .i64 r.size)).setCell ⟨w.heap.size+1,10,none⟩ (.string r.frm)).setCell ⟨w.heap.size+1,11,none⟩ (.int .i64 r.fnum))).drew=W9 at hZ8 hB8 ⊢;obtain⟨e0,e1,e2,e3,e4,e5,e6,e7,e8,e9,e10,e11⟩:=z7z hZ8;exact bodyPost_ret (v:=.tuple #[.agg #[.string r.path,.int .i64 r.num,.int .i64 r.chg,.int .i64 r.act,.int .i64 r.ty.base,.bool r.ty.k,.bool r.ty.l,.bool r.ty.x,.int .u64 r.sum,.int .i64 r.size,.string r.frm,.int .i64 r.fnum],.bool (decide (0<r.num))]) (by simp [results,results94,go_sem,Act.put,e0,e1,e2,e3,e4,e5,e6,e7,e8,e9,e10,e11]) rfl ⟨by rw[HAR.out],hB8⟩
open Go.Sort (grow)
def zl9 (w:World)(pl:List Syn)(e:Ending)(w':World):Prop:=∃ v,e=.returned (.tuple #[v,.int .i64 0])∧z4z w' v pl∧Below w.heap.size w w'
theorem zla:∀(n:Nat) (hs ws:List Hav),(z6h n hs ws).length≤n:=by
 intro n;induction n with
 | zero=>intro hs ws;exact Nat.le_refl _
 | succ n ih =>
  intro hs ws;cases hs with
  | nil =>
   cases ws with
   | nil=>exact Nat.zero_le _
   | cons y ws=>exact Nat.succ_le_succ (ih [] ws)
  | cons x hs =>
   cases ws with
   | nil=>exact Nat.succ_le_succ (ih hs [])
   | cons y ws =>
    unfold z6h;split
    ·exact Nat.succ_le_succ (ih _ _)
    ·split
     ·exact Nat.succ_le_succ (ih _ _)
     ·split
      ·exact Nat.le_succ_of_le (ih _ _)
      ·exact Nat.succ_le_succ (ih _ _)
theorem zlb {hs ws:List Hav}{op dt:List ByteArray}(h1:zf0 hs)(h2:zf0 ws):∀ x∈zf8 hs ws op dt,x.frm=zk4 hs x.path:=by
 intro x hx;obtain⟨i1,i2⟩:=zfc (op:=op) (dt:=dt) h1 h2;have hg:z6e (zf8 hs ws op dt) x.path=some x:=z65 i1 hx;rw[i2,Option.map_eq_some_iff] at hg;obtain⟨y,e1,e2⟩:=hg;have e3:x.frm=y.frm:=by rw[← e2];rfl
 rw[e3];unfold zk4;rcases zfb e1 with⟨a,e4,-,rfl⟩ | ⟨b,e4,-,rfl⟩ | ⟨a,b,e4,-,-,rfl⟩
 ·rw[e4];rfl
 ·rw[e4];rfl
 ·rw[e4];rfl
theorem zlc {hs:List Hav}(h:zf0 hs):∀ x∈hs,x.path.size≤200∧x.loc.size≤200:=fun x hx=>by
 obtain⟨h1,h2,-⟩:=zf1 (h.ok x hx);exact⟨(zf2 h1).2.1,(zf2 h2).2.1⟩
theorem z6t.grown_own {S:List Nat}{w W w':World}{row:Option Nat}(h:z6t S w W)(hg:W.grownBy w' row)(hr:∀ k,row=some k→w.heap.size≤k):z6t S w w':=
 ⟨hg.os.trans h.os,hg.tape.trans h.tape,hg.output.trans h.output,Nat.le_trans h.size hg.size,fun k hk hs=>(hg.block k (Nat.lt_of_lt_of_le hk h.size) (fun e=>by have:=hr k e.symm;omega)).trans (h.block k hk hs)⟩
theorem z6t.under {S:List Nat}{w W w':World}(h:z6t S w W)(hb:Below W.heap.size W w'):z6t S w w':=h.trans (z6t.below hb)
theorem zlh {S:List Nat}{w w':World}{B:Nat}{e:TypeId}{size n:Nat}{v:Value}{xs:List Value}(h:w.ownsRow B e size v n xs)(hK:z6t S w w')(hS:∀ x,v.ownBlock=some x→x∉S):w'.ownsRow B e size v n xs:=by
 refine⟨h.1,?_⟩;rcases h.2 with e1 | ⟨g,cap,cur,e1,h1,h2,h3⟩
 ·exact .inl e1
 ·exact .inr ⟨g,cap,cur,e1,h1,(hK.block g (Array.getElem?_eq_some_iff.1 h2).1 (hS g (by rw[e1];rfl))).trans h2,h3⟩
def zli (D:List Rev):Int:=(D.getLast?.map (·.chg)).getD 0
theorem zlj {D:List Rev}{k:Nat}(hk:D.length=k+1):zli D=(D[k]'(by omega)).chg:=by
 have e:D.getLast? = some (D[k]'(by omega)):=by
  rw[List.getLast?_eq_getElem?,show D.length - 1=k by omega,List.getElem?_eq_getElem]
 unfold zli;rw[e];rfl
theorem zlk (D:List Rev)(dv dr:Value)(w:World)(hR:z45 w dv D)(hl:D.length≤1000000):Calls prog 26 #[.agg #[dv,dr]] w fun e w'=>e=.returned (.int .i64 (zli D))∧Below w.heap.size w w':=by
 obtain⟨A,c,rfl,-⟩:=id hR;have hB:=z0l w [.slice A D.length c,dr] 26;have hA:Below w.heap.size w (w.alloc (.cells #[.slice A D.length c,dr] 26)):=(Below.refl _ _).alloc (Nat.le_refl _) _;have HR:=hd_ (hR.below hA);have HA:=hd_ hA;clear hR hA;go_enter func26,ntmps26;go_upto_region 1 with fail;generalize w.alloc (.cells #[.slice A D.length c,dr] 26)=W1 at hB HR HA ⊢;have d0:W1.cell? ⟨w.heap.size,0,none⟩=some (.slice A D.length c):=hB.cell 0;clear hB;rcases Nat.eq_zero_or_pos D.length with h0 | h0
 ·have hD:D=[]:=List.eq_nil_of_length_eq_zero h0;subst hD;have HT:Hid (zli []=0):=hd_ rfl;go_wp2_with fail;go_ret;exact⟨z34 HT.out.symm,HA.out⟩
 ·obtain⟨k,hk⟩:∃ k,D.length=k+1:=⟨D.length - 1,by omega⟩
  obtain⟨ad,rfl,hab,hc⟩:=HR.out.at_ (k:=k) (by omega)
  have HT:=hd_ (zlj hk);generalize D[k]=r at hc HT;obtain⟨-,-,c2,-⟩:=hc;have q0:((D.length:Int) == 0)=false:=by rw[beq_eq_false_iff_ne];omega
  have q1:IntKind.i64.wrap ((D.length:Int) - 1)=(k:Int):=by rw[IntKind.wrap_i64];omega
  have q2:¬((k:Int)<0):=by omega
  have q3:(k:Int)<(D.length:Int):=by omega
  have q4:¬ D=[]:=by rintro rfl;simp at hk
  clear hk h0 hl;go_wp2_with fail;go_ret;exact⟨z34 HT.out.symm,HA.out⟩
theorem zll (w:World):Calls prog 15 #[] w fun e w'=>e=.returned (.slice (some ⟨w.heap.size,0,none⟩) 6 6)∧w'=w.alloc (.cells (zff.map Value.string).toArray 9):=by
 go_enter func15,ntmps15;go_wp2_with fail;go_ret;exact⟨rfl,rfl⟩
theorem zlm (w:World):Calls prog 33 #[] w fun e w'=>e=.returned (.slice (some ⟨w.heap.size,0,none⟩) 8 8)∧w'=w.alloc (.cells (zle.map Value.string).toArray 9):=by
 go_enter func33,ntmps33;go_wp2_with fail;go_ret;exact⟨rfl,rfl⟩
theorem zqb (x:Syn)(w:World):Calls prog 21 #[.agg #[.int .i64 x.kind,.string x.path,.int .i64 x.num,.string x.frm,.string x.dst]] w fun e w'=>e=.returned (.bool (z3o x.kind))∧Below w.heap.size w w':=by
 have hA:Below w.heap.size w (w.alloc (.cells #[.int .i64 x.kind,.string x.path,.int .i64 x.num,.string x.frm,.string x.dst] 48)):=(Below.refl _ _).alloc (Nat.le_refl _) _;obtain⟨z0,-⟩:=z3r (x:=x) (z0l w [.int .i64 x.kind,.string x.path,.int .i64 x.num,.string x.frm,.string x.dst] 48);rcases z3t x.kind with⟨h1,h2,h3⟩ | ⟨h1,h2,h3,h4,h5⟩ | ⟨h1,h2,h3,h4,h5⟩
 ·go_enter func21,ntmps21;go_wp2_with fail;go_ret;exact⟨z0w h3.symm,hA⟩
 ·go_enter func21,ntmps21;go_wp2_with fail;go_ret;exact⟨z0w h5.symm,hA⟩
 ·go_enter func21,ntmps21;go_wp2_with fail;go_ret;exact⟨z0w h5.symm,hA⟩
theorem zqc (l:List ByteArray)(v:Value)(s:ByteArray)(w:World)(hL:Strs w v l)(hl:l.length≤1000000):
  Calls prog 22 #[v,.string s] w fun e w'=>e=.returned (.bool (decide (s∈l)))∧Below w.heap.size w w':=by
 obtain⟨A,c,rfl,-⟩:=id hL;have HL:=hd_ hL;clear hL;go_enter func22,ntmps22;go_wp2_with fail;go_loopw [5] (fun i wr=>∃ k:Nat,i=.int .i64 k∧k≤l.length∧Hid ((∀ j (hj:j<l.length),j<k→l[j]≠s)∧Below w.heap.size w wr)) (fun i _=>l.length - (intOf i).toNat)
 case atStart=>exact⟨0,rfl,Nat.zero_le _,hd_ ⟨fun j _ h=>by omega,Below.refl _ _⟩⟩
 case round =>
  obtain⟨k,rfl,hk,HI⟩:=hrel;by_cases hlt:k<l.length
  ·obtain⟨ad,rfl,hab,s0⟩:=Strs.at_ (HL.out.below HI.out.2) hlt;have HY:Hid (l[k]=s→s∈l):=hd_ fun e=>by rw[← e];exact List.getElem_mem hlt
   have HN:Hid (l[k]≠s→∀ j (hj:j<l.length),j<k+1→l[j]≠s):=hd_ fun h j hj hjk=>by
    by_cases e:j=k
    ·subst e;exact h
    ·exact HI.out.1 j hj (by omega)
   generalize l[k]=q at s0 HY HN;have HB:=hd_ HI.out.2;have HLT:=hd_ hlt;by_cases h1:q=s
   ·have q1:(q.toList == s.toList)=true:=by rw[z3x,decide_eq_true h1]
    have HR:=hd_ (HY.out h1);clear h1;go_wp2_with fail;go_ret;exact⟨z0w (decide_eq_true HR.out).symm,HB.out⟩
   ·have q1:(q.toList == s.toList)=false:=by rw[z3x,decide_eq_false h1]
    have HR:=hd_ (HN.out h1);clear h1;go_wp2_with fail;go_roundw
    case rel=>exact⟨k+1,by go_num,by have:=HLT.out;omega,hd_ ⟨HR.out,HB.out⟩⟩
    case measure=>have:=HLT.out;simp [intOf];omega
  ·have hke:k=l.length:=by omega
   have HR:Hid (s∉l):=hd_ fun h=>by
    obtain⟨j,hj,e⟩:=List.getElem_of_mem h;exact HI.out.1 j hj (by omega) e
   have HB:=hd_ HI.out.2;subst hke;clear HI;go_wp2_with fail;go_ret;exact⟨z0w (decide_eq_false HR.out).symm,HB.out⟩
theorem zln:z0e prog 29 9 1 16:=z0f underlying29 (z:=.string ⟨#[]⟩) (by kernel_rfl) rfl (by decide)
theorem hI_lt {w:World}{B g:Nat}{e:TypeId}{size n:Nat}{v:Value}{xs:List Value}(h:w.ownsRow B e size v n xs)(hg:g<B):∀ x,v.ownBlock=some x→x≠g:=fun x hx=>by have:=(h.lt x hx).1;omega
structure FewSt (w wr:World)(U g m:Nat)(l l':List ByteArray)(v:Value):Prop where
 own:wr.ownsRow w.heap.size 9 1 v l'.length (l'.map .string)
 tape:zgf wr U g (m+1+l'.length)
 kept:z6t [g] w wr
 sub:∀ x∈l',x∈l
def zlo (w:World)(U g m:Nat)(l:List ByteArray)(e:Ending)(w':World):Prop:=∃(l':List ByteArray) (v:Value),e=.returned v∧Strs w' v l'∧l'.length≤2∧(∀ x∈l',x∈l)∧zgf w' U g (m+3)∧z6t [g] w w'∧∀ x,v.ownBlock=some x→w.heap.size≤x
theorem zlp (U g m:Nat)(l:List ByteArray)(A:Option Addr)(c:Nat)(w:World)(hT:zgf w U g m)(hU:U≤w.heap.size)(hm:m≤100000)(hL:∀ W,z6t [g] w W→Strs W (.slice A l.length c) l)(h0:0<l.length)(hl:l.length≤1000):
  Calls prog 32 #[.pointer (some ⟨g,0,none⟩),.slice A l.length c] w (zlo w U g m l):=by
 have hg:=hT.lt;have HN:=hd_ (zgg U g m 3 w hT (by omega) (by omega))
 have HL:=hd_ hL;clear hT hL;go_enter func32,ntmps32;go_wp2_with (refine HN.out.mono ?_;rintro e w1 ⟨k,rfl,hk,hT1,hK1⟩)
 obtain⟨j,rfl⟩:∃ j:Nat,k=j:=⟨k.toNat,by have:=hk.1;omega⟩
 have hj2:j≤2:=by have:=hk.2.1 (by omega);omega
 have HS0:Hid (FewSt w w1 U g m l [] (.slice none 0 0)):=hd_ ⟨World.ownsRow_nil _ _ _ _,hT1,hK1,fun x h=>by cases h⟩
 clear hk hT1 hK1 HN;go_loopw [5,6] (fun v i wr=>∃(j:Nat) (l':List ByteArray) (A':Option Addr) (c':Nat),v=.slice A' l'.length c'∧i=.int .i64 j∧l'.length+j≤2∧Hid (FewSt w wr U g m l l' v)) (fun _ i _=>(intOf i).toNat)
 case atStart=>exact⟨j,[],none,0,rfl,rfl,by simpa using hj2,HS0⟩
 case round =>
  obtain⟨j,l',A',c',rfl,rfl,hlj,HI⟩:=hrel;by_cases h1:0<j
  ·have q1:decide ((0:Int)<(j:Int))=true:=by simp;omega
   have q2:decide ((0:Int)<(l.length:Int))=true:=by simp;omega
   have HX:=hd_ (zgg U g (m+1+l'.length) l.length wr HI.out.tape (by omega) (by omega))
   go_wp2_with (refine HX.out.mono ?_;rintro e w2 ⟨k,rfl,hk,hT2,hK2⟩)
   obtain⟨kk,rfl⟩:∃ kk:Nat,k=kk:=⟨k.toNat,by have:=hk.1;omega⟩
   have hkk:kk<l.length:=by
    rcases Nat.lt_or_ge 1 l.length with h | h
    ·have:=hk.2.1 (by omega);omega
    ·have:=hk.2.2 (by omega);omega
   obtain⟨ad,rfl,hab,s0⟩:=Strs.at_ (HL.out w2 (HI.out.kept.trans hK2)) hkk;have HQM:=hd_ (show l[kk]∈l from List.getElem_mem hkk);generalize l[kk]=q at s0 HQM;have hgl:=hI_lt HI.out.own hg;have hown2:w2.ownsRow w.heap.size 9 1 (.slice A' l'.length c') l'.length (l'.map .string):=zlh HI.out.own hK2 (fun x hx=>by rw[List.mem_singleton];exact hgl x hx)
   have HOWN:=hd_ (zcg hown2 (.cells #[.string q] 9));have HT2:=hd_ hT2;have HK2:=hd_ (HI.out.kept.trans hK2);have hb2:w.heap.size≤(w2.alloc (.cells #[.string q] 9)).heap.size:=by have:=HK2.out.size;simp;omega
   have HH1:=hd_ h1;clear hk hT2 hK2 hown2 hgl h1;go_wp2_with fail;go_simp
   go_wp2_with (at_builtin;refine z0j (base:=w.heap.size) rfl rfl zln HOWN.out rfl (z0i w2 [.string q] _ 1 1 rfl (by decide) _ (by simp)) rfl (by simp [Value.oneCell']) (by omega) (by unfold maxLen;omega) hb2 ?_;intro A6 c6 w6 hO6 hG6 hw6)
   have HN6:Hid (FewSt w w6 U g m l (l'++[q]) (.slice A6 (l'.length+1) c6)):=hd_ (by
    have hK6:z6t [g] w w6:=(HK2.out.under ((Below.refl _ _).alloc (Nat.le_refl _) _)).grown_own hG6 (fun k e=>(HOWN.out.lt k e).1);refine⟨?_,?_,hK6,fun x hx=>?_⟩
    ·rw[List.length_append,List.map_append];exact hO6
    ·have ht:=(HT2.out.below ((Below.refl _ _).alloc (Nat.le_refl _) (.cells #[.string q] 9)));have ht2:=ht.keep hG6.size (fun x hx=>hG6.block x (by simp;have:=HK2.out.size;omega) (fun e=>by have:=(HOWN.out.lt x e.symm).1;omega))
     rw[List.length_append];exact ht2
    ·rcases List.mem_append.1 hx with hx | hx
     ·exact HI.out.sub x hx
     ·rw[List.mem_singleton] at hx;rw[hx];exact HQM.out)
   have h1:=HH1.out;have q5:IntKind.i64.wrap ((j:Int) - 1)=((j - 1:Nat):Int):=by rw[IntKind.wrap_i64];omega
   clear hO6 hG6 hw6;go_wp2_with fail;go_roundw
   case rel=>exact⟨j - 1,l'++[q],A6,c6,by rw[List.length_append];rfl,by first | rfl | go_num,by rw[List.length_append];simp;omega,HN6⟩
   case measure=>simp [intOf];omega
  ·have h0j:j=0:=by omega
   subst h0j;have q1:decide ((0:Int)<((0:Nat):Int))=false:=by simp
   have HF:=hd_ (fun(X:World) (hX:X=wr)=>(⟨l',_,rfl,Row.of_own HI.out.own,by omega,HI.out.sub,HI.out.tape.mono (by omega),HI.out.kept,fun x hx=>(HI.out.own.lt x hx).1⟩:zlo w U g m l (.returned (.slice A' l'.length c')) wr))
   go_wp2_with fail;go_ret;exact HF.out _ rfl
end Go.Proofs.YtegeboijhifmcaaGreatDoor
