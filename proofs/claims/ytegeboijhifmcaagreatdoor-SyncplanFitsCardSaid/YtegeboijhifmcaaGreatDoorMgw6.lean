/- Patterns: the walk of MatchPart. -/
import Derived.Test.YtegeboijhifmcaaGreatDoorMgw4
import Derived.Test.YtegeboijhifmcaaGreatDoorMgw3
import Derived.Test.YtegeboijhifmcaaGreatDoorMgw2
import Derived.Deep.DeepCutAuto
import Derived.Lib.Strings
import Derived.Deep.RegionHeld3
import Derived.Deep.MidRow
import Derived.StillTailTactics
import Derived.IntWalk
import Derived.Laws.EntriesVeiled
namespace Go.Proofs.YtegeboijhifmcaaGreatDoor
set_option linter.unusedVariables false
set_option linter.unusedSimpArgs false
set_option maxHeartbeats 1000000
open Go.RowKit
def z80 (part:ByteArray):ByteArray:=part.extract 1 part.size
def z81 (part comp:ByteArray):ByteArray:=if z79 part then ⟨(Lib.trimSuffix comp.data.toList (z80 part).data.toList).toArray⟩ else z2l
def z82 (part comp:ByteArray):Bool:=if z79 part then Lib.hasSuffix comp.data.toList (z80 part).data.toList && !decide (z81 part comp=z2l) else decide (part=comp)
theorem z83 {s:ByteArray}(h:z79 s=true):1≤s.size:=by
 rcases Nat.eq_zero_or_pos s.size with h0 | h0
 ·have:s.data.toList=[]:=List.eq_nil_of_length_eq_zero (by simpa using h0)
  unfold z79 at h;rw[this] at h;cases h
 ·exact h0
theorem z84 (a b:ByteArray):(a.toList == b.toList)=decide (a=b):=by
 rw[Bool.eq_iff_iff,beq_iff_eq,decide_eq_true_eq,toList_inj]
theorem z85 {x y:ByteArray}{a b:Bool}(h1:x=y)(h2:a=b):Ending.returned (.tuple #[.string x,.bool a])=.returned (.tuple #[.string y,.bool b]):=by rw[h1,h2]
theorem z86 (part comp:ByteArray)(w:World)(hp:part.size≤9223372036854775807)(hs:comp.size≤9223372036854775807):
  Calls Tryz.prog 109 #[.string part,.string comp] w fun e w'=>e=.returned (.tuple #[.string (z81 part comp),.bool (z82 part comp)])∧w=w':=by
 have HI:=hd_ (z7k part w);have HC:=hd_ (Tryz.strings_CutSuffix comp (part.extract 1 part.size) w hs);cases hst:z79 part with
 | false =>
  have HV:Hid (z81 part comp=⟨#[]⟩∧z82 part comp=decide (part=comp)):=hd_ (by unfold z81 z82;rw[hst];exact⟨rfl,rfl⟩)
  have HE:=hd_ (z84 part comp);rw[hst] at HI;clear hst;go_enter Tryz.func109,Tryz.ntmps109;go_wp2_with (go_at_call 110;refine HI.out.mono ?_;rintro e w' ⟨rfl,rfl⟩)
  go_ret2;exact⟨z85 HV.out.1.symm (by rw[HV.out.2];exact HE.out),rfl⟩
 | true =>
  have h1:1≤part.size:=z83 hst;have HV:Hid (z81 part comp=⟨(Lib.trimSuffix comp.data.toList (z80 part).data.toList).toArray⟩∧z82 part comp=(Lib.hasSuffix comp.data.toList (z80 part).data.toList && !decide (z81 part comp=z2l))):=hd_ ⟨by unfold z81;rw[hst];rfl,by unfold z82;rw[hst];rfl⟩
  rw[hst] at HI;clear hst;change Hid (Calls Tryz.prog 162 #[.string comp,.string (part.extract 1 part.size)] w fun e w'=>e=.returned (.tuple #[.string ⟨(Lib.trimSuffix comp.data.toList (z80 part).data.toList).toArray⟩,.bool (Lib.hasSuffix comp.data.toList (z80 part).data.toList)])∧w'=w) at HC;generalize (⟨(Lib.trimSuffix comp.data.toList (z80 part).data.toList).toArray⟩:ByteArray)=x at HC HV;generalize Lib.hasSuffix comp.data.toList (z80 part).data.toList=ok at HC HV;have HE:=hd_ (z84 x ⟨#[]⟩);go_enter Tryz.func109,Tryz.ntmps109;cases ok with
  | false =>
   go_wp2_with (first
    | (go_at_call 110;refine HI.out.mono ?_;rintro e w' ⟨rfl,rfl⟩)
    | (go_at_call 162;refine HC.out.mono ?_;rintro e w' ⟨rfl,rfl⟩))
   go_ret2;exact⟨z85 HV.out.1.symm (by rw[HV.out.2];rfl),rfl⟩
  | true =>
   by_cases hx:x=⟨#[]⟩
   ·have HX:=hd_ hx;have q:(x.toList == (⟨#[]⟩:ByteArray).toList)=true:=by rw[HE.out];simpa using hx
    have q2:x.toList=[]:=by rw[hx,ByteArray.toList_eq]
    clear hx;go_wp2_with (first
     | (go_at_call 110;refine HI.out.mono ?_;rintro e w' ⟨rfl,rfl⟩)
     | (go_at_call 162;refine HC.out.mono ?_;rintro e w' ⟨rfl,rfl⟩))
    go_ret2;exact⟨z85 HV.out.1.symm (by rw[HV.out.2,HV.out.1,HX.out];rfl),rfl⟩
   ·have HX:=hd_ hx;have q:(x.toList == (⟨#[]⟩:ByteArray).toList)=false:=by rw[HE.out];simpa using hx
    have q2:¬ x.toList=[]:=fun h=>hx (toList_inj.1 (h.trans (by rw[ByteArray.toList_eq])))
    have q3:x.toList.isEmpty=false:=by cases hh:x.toList;exact absurd hh q2;rfl
    clear hx;go_wp2_with (first
     | (go_at_call 110;refine HI.out.mono ?_;rintro e w' ⟨rfl,rfl⟩)
     | (go_at_call 162;refine HC.out.mono ?_;rintro e w' ⟨rfl,rfl⟩))
    go_ret2;exact⟨z85 HV.out.1.symm (by rw[HV.out.2,HV.out.1,decide_eq_false (show ¬ x=z2l from HX.out)];rfl),rfl⟩
theorem ze3:z2l.toList=[]:=by rw[ByteArray.toList_eq];rfl
theorem ze4 {s:ByteArray}(h:s=z2l):s.toList=[]:=by subst h;exact ze3
theorem ze5 {s:ByteArray}(h:s≠z2l):¬ s.toList=[]:=by
 intro e;apply h
 rw[← toList_inj,e,ze3]
theorem ze6 {s:ByteArray}(h:s≠z2l):s.toList.isEmpty=false:=by
 have:=ze5 h;cases hs:s.toList with
 | nil=>exact absurd hs this
 | cons a l=>rfl
theorem ze7 (a b:ByteArray):(a.toList == b.toList)=decide (a=b):=by
 rw[Bool.eq_iff_iff,beq_iff_eq,decide_eq_true_eq,toList_inj]
def natV (n:Nat):Value:=.int .i64 n
def ze8 (w:World)(B:Nat)(cnt:ByteArray→Nat):Prop:=∃ f,z2f Value.string natV w B f∧∀ p,(f p).getD 0=cnt p
theorem ze9 (w:World):(zeroValue 3).run Tryz.prog w=.ok (natV 0) w:=by kernel_rfl
section
variable {w w' : World} {B : Nat} {cnt : ByteArray → Nat}
theorem ze8.new (w:World):ze8 (w.alloc (.map #[] 0)) w.heap.size (fun _=>0):=⟨_,z2f.new _ _ w,fun _=>rfl⟩
theorem ze8.alloc (h:ze8 w B cnt)(o:Obj):ze8 (w.alloc o) B cnt:=by obtain⟨f,h,r⟩:=h;exact⟨f,h.alloc o,r⟩
theorem ze8.lt (h:ze8 w B cnt):B<w.heap.size:=by obtain⟨f,h,r⟩:=h;exact h.lt
theorem ze8.look (h:ze8 w B cnt)(p:ByteArray):(Instr.lookup 122 (.map (some B)) (.string p) false).run Tryz.prog w=.ok (.int .i64 (cnt p)) w:=by
 obtain⟨f,h,r⟩:=h;rw[z2f.lookup h z7q Tryz.underlying122 (ze9 w) p false,← r p];unfold z2h;cases f p <;> rfl
end
def zea (q:ByteArray)(p:Rev→Bool)(o:Option Rev)(r:Rev):Option Rev:=
 if r.path=q∧p r=true then (match o with
  | none=>some r
  | some b=>if b.num<r.num then some r else some b) else o
theorem zeb (revs:List Rev)(q:ByteArray)(p:Rev→Bool):z30 revs q p=revs.foldl (zea q p) none:=rfl
def zec (o:Option Rev):Rev:=o.getD z2m
theorem far12 {w:World}{g g':Nat}{e:TypeId}{cs:List Value}(h:Blk w g' e cs)(hg:g≠g')(r:Rev):Blk ((((((((((((w.setCell ⟨g,0,none⟩ (.string r.path)).setCell ⟨g,1,none⟩ (.int .i64 r.num)).setCell ⟨g,2,none⟩ (.int .i64 r.chg)).setCell ⟨g,3,none⟩ (.int .i64 r.act)).setCell ⟨g,4,none⟩ (.int .i64 r.ty.base)).setCell ⟨g,5,none⟩ (.bool r.ty.k)).setCell ⟨g,6,none⟩ (.bool r.ty.l)).setCell ⟨g,7,none⟩ (.bool r.ty.x)).setCell ⟨g,8,none⟩ (.int .u64 r.sum)).setCell ⟨g,9,none⟩ (.int .i64 r.size)).setCell ⟨g,10,none⟩ (.string r.frm)).setCell ⟨g,11,none⟩ (.int .i64 r.fnum)) g' e cs:=
 ((((((((((((h.far (p:=⟨g,0,none⟩) hg _).far (p:=⟨g,1,none⟩) hg _).far (p:=⟨g,2,none⟩) hg _).far (p:=⟨g,3,none⟩) hg _).far (p:=⟨g,4,none⟩) hg _).far (p:=⟨g,5,none⟩) hg _).far (p:=⟨g,6,none⟩) hg _).far (p:=⟨g,7,none⟩) hg _).far (p:=⟨g,8,none⟩) hg _).far (p:=⟨g,9,none⟩) hg _).far (p:=⟨g,10,none⟩) hg _).far (p:=⟨g,11,none⟩) hg _)
def zgp (revs:List Rev)(p:ByteArray):List Rev:=revs.filter fun r=>decide (r.path=p)
theorem zgq {revs:List Rev}{p:ByteArray}{v:Rev}:v∈zgp revs p↔v∈revs∧v.path=p:=by
 unfold zgp;simp
theorem zgr (a b:List Rev)(p:ByteArray):zgp (a++b) p=zgp a p++zgp b p:=by unfold zgp;rw[List.filter_append]
def atM (m:Int)(o v:Rev):Rev:=if v.chg≤m then v else o
def rAt (D:List Rev)(p:ByteArray)(m:Int):Rev:=(zgp D p).foldl (atM m) z2m
def gS (p:ByteArray)(f:Rev→Bool)(o:Option Rev)(r:Rev):Option Rev:=if r.path=p∧f r=true then (match o with
  | none=>some r
  | some b=>if b.num<r.num then some r else some b) else o
theorem zh2 (D:List Rev)(p:ByteArray)(f:Rev→Bool):z30 D p f=D.foldl (gS p f) none:=rfl
theorem gS_far {p:ByteArray}{f:Rev→Bool}{o:Option Rev}{r:Rev}(h:¬(r.path=p∧f r=true)):gS p f o r=o:=if_neg h
theorem gS_more {p:ByteArray}{f:Rev→Bool}{o:Option Rev}{r:Rev}(h:r.path=p∧f r=true)(ho:∀ b,o=some b→b.num<r.num):gS p f o r=some r:=by
 unfold gS;rw[if_pos h];cases o with
 | none=>rfl
 | some b=>exact if_pos (ho b rfl)
theorem zh3 (D:List Rev)(p:ByteArray)(f:Rev→Bool):z30 D p f=z30 (zgp D p) p f:=by
 rw[zh2,zh2];unfold zgp;rw[List.foldl_filter];congr 1
 funext o r
 by_cases h:r.path=p
 ·simp [h]
 ·rw[gS_far (fun e=>h e.1)];simp [h]
theorem zh4 (m:Int)(p:ByteArray):∀(l:List Rev) (o:Option Rev),l.Pairwise (fun a b=>a.num<b.num)→(∀ v∈l,0<v.num∧v.path=p)→(∀ b,o=some b→0<b.num∧∀ v∈l,b.num<v.num) →
  zec (l.foldl (gS p (fun v=>decide (v.chg≤m))) o)=l.foldl (atM m) (zec o)∧(l.foldl (gS p (fun v=>decide (v.chg≤m))) o).isSome=decide (0<(l.foldl (atM m) (zec o)).num)
 | [],o,_,_,ho=>by
  refine⟨rfl,?_⟩;cases o with
  | none=>rfl
  | some b=>have:=(ho b rfl).1;simp [zec,this]
 | v :: l,o,hs,hn,ho=>by
  obtain⟨h1,h2⟩:=List.pairwise_cons.1 hs;have hv:=hn v (List.mem_cons_self ..);have hn2:∀ x∈l,0<x.num∧x.path=p:=fun x hx=>hn x (List.mem_cons_of_mem _ hx);rw[List.foldl_cons,List.foldl_cons];by_cases hc:v.chg≤m
  ·have e2:atM m (zec o) v=zec (some v):=by unfold atM;rw[if_pos hc];rfl
   rw[gS_more ⟨hv.2,by simpa using hc⟩ (fun b hb=>(ho b hb).2 v (List.mem_cons_self ..)),e2]
   exact zh4 m p l (some v) h2 hn2 (fun b hb=>by injection hb with hb;subst hb;exact⟨hv.1,h1⟩)
  ·have e2:atM m (zec o) v=zec o:=by unfold atM;rw[if_neg hc]
   rw[gS_far (by simp [hc]),e2]
   exact zh4 m p l o h2 hn2 (fun b hb=>⟨(ho b hb).1,fun x hx=>(ho b hb).2 x (List.mem_cons_of_mem _ hx)⟩)
def zh8:List (List UInt8)→List (List UInt8)→Int
 | [],[]=>0
 | [],_ :: _=>-1
 | _ :: _,[]=>1
 | a :: l,b :: m=>if Lib.compareBytes a b=0 then zh8 l m else Lib.compareBytes a b
def zh9:List (List UInt8)→List UInt8
 | []=>[]
 | p :: ps=>47 :: p++zh9 ps
theorem zha (p:List UInt8)(ps:List (List UInt8)):47 :: Lib.join (p :: ps) [47]=zh9 (p :: ps):=by
 induction ps generalizing p with
 | nil=>simp [Lib.join_one,zh9]
 | cons q ps ih =>
  rw[z1h p (q :: ps) (by simp),zh9,← ih q]
  simp
def zhb (l:List UInt8):Prop:=l=[]∨∃ r,l=47 :: r
theorem zhc (ps:List (List UInt8)):zhb (zh9 ps):=by
 cases ps with
 | nil=>exact .inl rfl
 | cons p ps=>exact .inr ⟨p++zh9 ps,by simp [zh9]⟩
theorem zhd:∀(p q X Y:List UInt8),(47:UInt8)∉p→(47:UInt8)∉q→zhb X→zhb Y→z2t (p++X) (q++Y)=if Lib.compareBytes p q=0 then z2t X Y else Lib.compareBytes p q
 | [],[],X,Y,_,_,_,_=>by simp [Lib.compareBytes]
 | [],b :: q,X,Y,_,hq,hX,_=>by
  have hb:b≠47:=fun e=>hq (by rw[e];exact List.mem_cons_self ..)
  rcases hX with rfl | ⟨r,rfl⟩
  ·simp [Lib.compareBytes,z2t]
  ·simp [Lib.compareBytes,z2t]
   exact fun e=>absurd e.symm hb
 | a :: p,[],X,Y,hp,_,_,hY=>by
  have ha:a≠47:=fun e=>hp (by rw[e];exact List.mem_cons_self ..)
  rcases hY with rfl | ⟨r,rfl⟩
  ·simp [Lib.compareBytes,z2t]
  ·simp [Lib.compareBytes,z2t,ha]
 | a :: p,b :: q,X,Y,hp,hq,hX,hY=>by
  have ha:a≠47:=fun e=>hp (by rw[e];exact List.mem_cons_self ..)
  have hb:b≠47:=fun e=>hq (by rw[e];exact List.mem_cons_self ..)
  have ih:=zhd p q X Y (fun h=>hp (List.mem_cons_of_mem _ h)) (fun h=>hq (List.mem_cons_of_mem _ h)) hX hY;rw[List.cons_append,List.cons_append,z2t,Lib.compareBytes];by_cases e:a=b
  ·subst e;have hlt:¬ a<a:=by rw[UInt8.lt_iff_toNat_lt];omega
   rw[if_pos rfl,if_neg hlt,if_neg hlt];exact ih
  ·rw[if_neg e,if_neg ha,if_neg hb];by_cases hl:a<b
   ·rw[if_pos hl,if_pos hl];simp
   ·have hg:b<a:=by
     have:a.toNat≠b.toNat:=fun h=>e (UInt8.toNat_inj.1 h);rw[UInt8.lt_iff_toNat_lt] at hl ⊢;omega
    rw[if_neg hl,if_neg hl,if_pos hg];simp
theorem zhe:∀(ps qs:List (List UInt8)),(∀ p∈ps,(47:UInt8)∉p)→(∀ q∈qs,(47:UInt8)∉q)→z2t (zh9 ps) (zh9 qs)=zh8 ps qs
 | [],[],_,_=>rfl
 | [],q :: qs,_,_=>by simp [zh9,z2t,zh8]
 | p :: ps,[],_,_=>by simp [zh9,z2t,zh8]
 | p :: ps,q :: qs,hp,hq=>by
  have ih:=zhe ps qs (fun x hx=>hp x (List.mem_cons_of_mem _ hx)) (fun x hx=>hq x (List.mem_cons_of_mem _ hx));rw[zh9,zh9,List.cons_append,List.cons_append,z2t,if_pos rfl,zhd p q _ _ (hp p (List.mem_cons_self ..)) (hq q (List.mem_cons_self ..)) (zhc _) (zhc _),zh8,ih]
theorem zhf {l:List UInt8}{least:Nat}{ps:List (List UInt8)}(h:z2q l least=some ps):l=47 :: zh9 ps∧∀ p∈ps,(47:UInt8)∉p:=by
 unfold z2q at h;split at h
 ·rename_i hc
  injection h with h
  subst h;have hp:=hc.1;have hl:l=47 :: 47 :: l.drop 2:=by
   match l,hp with
   | [],hp=>simp [Lib.hasPrefix] at hp
   | [a],hp=>simp [Lib.hasPrefix] at hp
   | a :: b :: r,hp =>
    simp [Lib.hasPrefix] at hp
    obtain⟨rfl,rfl⟩:=hp;rfl
  have hj:=z1i (l.drop 2);refine⟨?_,fun p hp=>(z1e hp).1⟩;cases hs:z1a (l.drop 2) with
  | nil=>exact absurd hs (z1b _)
  | cons p ps =>
   rw[← zha,← hs,hj];exact hl
 ·cases h
theorem zhg {a b:ByteArray}{ps qs:List (List UInt8)}(ha:z2q a.data.toList 2=some ps)(hb:z2q b.data.toList 2=some qs):z2u a b=zh8 ps qs:=by
 have va:z2s a=true:=by unfold z2s z2r;rw[ha];rfl
 have vb:z2s b=true:=by unfold z2s z2r;rw[hb];rfl
 obtain⟨a1,a2⟩:=zhf ha;obtain⟨b1,b2⟩:=zhf hb;rw[z5d va vb,a1,b1,z2t,if_pos rfl,zhe ps qs a2 b2]
end Go.Proofs.YtegeboijhifmcaaGreatDoor
