/- A part. -/
import Derived.Test.YtijghobkkdbhnaaGreatDoorMcw30
set_option linter.unusedVariables false
set_option linter.unusedSimpArgs false
set_option maxHeartbeats 8000000
set_option maxRecDepth 100000
namespace Go.Proofs.YtijghobkkdbhnaaGreatDoor
open Go.Proofs.Tryz
open Go.RowKit
structure zm7 (D:List Rev)(n:Nat):Prop where
 len:D.length≤n
 six:∀ r∈D,r.path∈zf0
 num:∀ p (i:Nat) (h:i<(zga D p).length),(zga D p)[i].num=(i:Int)+1
theorem dp_nil:zm7 [] 0:=⟨Nat.le_refl _,(fun r h=>by cases h),fun p i h=>by simp [zga] at h⟩
theorem zm8 {D:List Rev}{n:Nat}(h:zm7 D n)(p:ByteArray):(zdv (zgd D p)).num=((zga D p).length:Int):=by
 unfold zgd zdv;rcases Nat.eq_zero_or_pos (zga D p).length with h0 | h0
 ·rw[List.eq_nil_of_length_eq_zero h0];rfl
 ·rw[List.getLast?_eq_getElem?,List.getElem?_eq_getElem (by omega),Option.getD_some,h.num p _ (by omega)]
  omega
theorem zm9 {D:List Rev}{n:Nat}(h:zm7 D n):∀ r∈D,1≤r.num:=fun r hr=>by
 obtain⟨i,hi,e⟩:=List.getElem_of_mem (zgb.2 ⟨hr,rfl⟩:r∈zga D r.path);have:=h.num r.path i hi;rw[e] at this;omega
theorem zma {p:ByteArray}:∀ {L:List Rev},(L.map (·.path)).Nodup→zga L p=[]∨∃ r∈L,r.path=p∧zga L p=[r]
 | [],_=>.inl rfl
 | r :: L,h=>by
  rw[List.map_cons,List.nodup_cons] at h;have e:zga (r :: L) p=(if r.path=p then [r] else [])++zga L p:=by
   unfold zga;by_cases hp:r.path=p
   ·rw[if_pos hp,List.filter_cons_of_pos (by simpa using hp)];rfl
   ·rw[if_neg hp,List.filter_cons_of_neg (by simpa using hp)];rfl
  rw[e];by_cases hp:r.path=p
  ·rw[if_pos hp];have:zga L p=[]:=by
    cases hl:zga L p with
    | nil=>rfl
    | cons v l =>
     have hv:v∈zga L p:=by rw[hl];exact List.mem_cons_self ..
     obtain⟨h1,h2⟩:=zgb.1 hv;exact absurd (List.mem_map.2 ⟨v,h1,h2.trans hp.symm⟩) h.1
   rw[this];exact .inr ⟨r,List.mem_cons_self ..,hp,rfl⟩
  ·rw[if_neg hp];rcases zma (p:=p) h.2 with h1 | ⟨v,h1,h2,h3⟩
   ·exact .inl h1
   ·exact .inr ⟨v,List.mem_cons_of_mem _ h1,h2,h3⟩
theorem dp_app {D:List Rev}{n:Nat}{es:List Edt}(h:zm7 D n)(m:Int)(h6:∀ x∈es,x.path∈zf0)(hn:(es.map (·.path)).Nodup)(hb:∀ x∈es,x.base=(zdv (zgd D x.path)).num):zm7 (D++es.map (zhj m)) (n+es.length):=by
 refine⟨by rw[List.length_append,List.length_map];have:=h.len;omega,fun r hr=>?_,fun p i hi=>?_⟩
 ·rcases List.mem_append.1 hr with hr | hr
  ·exact h.six r hr
  ·obtain⟨x,hx,rfl⟩:=List.mem_map.1 hr;exact h6 x hx
 ·have hl:zga (es.map (zhj m)) p=[]∨∃ r∈es.map (zhj m),r.path=p∧zga (es.map (zhj m)) p=[r]:=zma (by rw[List.map_map];exact hn)
  have e:=zgc D (es.map (zhj m)) p;rcases hl with hl | ⟨r,hr,hp,hl⟩
  ·rw[hl,List.append_nil] at e;have hi2:i<(zga D p).length:=by rw[← e];exact hi
   have:=h.num p i hi2;rw[← this];congr 1
   simp only[e]
  ·rw[hl] at e;have hi2:i<(zga D p).length+1:=by have:=congrArg List.length e;rw[List.length_append,List.length_singleton] at this;omega
   by_cases hlt:i<(zga D p).length
   ·rw[← h.num p i hlt];congr 1
    simp only[e]
    rw[List.getElem_append_left]
   ·have hie:i=(zga D p).length:=by omega
    obtain⟨x,hx,rfl⟩:=List.mem_map.1 hr;have hnum:(zhj m x).num=(i:Int)+1:=by
     show x.base+1=_
     have hp':x.path=p:=hp;rw[hb x hx,hp',zm8 h,hie]
    rw[← hnum];congr 1
    simp only[e]
    rw[List.getElem_append_right (by omega)]
    simp [hie]
theorem dp_at {D:List Rev}{n:Nat}(h:zm7 D n)(p:ByteArray)(m:Int):zdv (z36 D p (fun v=>decide (v.chg≤m)))=rAt D p m∧(z36 D p (fun v=>decide (v.chg≤m))).isSome=decide (0<(rAt D p m).num):=by
 rw[zgo,zgn];refine zgp m p (zga D p) none ?_ (fun v hv=>⟨?_,(zgb.1 hv).2⟩) (fun b hb=>by cases hb)
 ·rw[List.pairwise_iff_getElem];intro i j hi hj hij;rw[h.num p i hi,h.num p j hj];omega
 ·have:=zm9 h v (zgb.1 hv).1;omega
theorem zmx (ex:Bool)(l r:Pat)(s:ByteArray)(A B:Option Addr)(a b:Nat)(w:World)(he:Env w)(hs:s.size≤1000000)(hl:z9j w (.slice A l.parts.length a) l)(hr:z9j w (.slice B r.parts.length b) r)(h1:z7g l=0)(h2:z7g r=0)(h3:z9c l=z9c r)(h4:l.rest=r.rest)(hf:∀ caps,z8g l s=some caps→zba r caps)
  (hF:∀ X caps cv,zB w X→Strs X cv caps→zba r caps→Calls prog 196 #[.agg #[.slice B r.parts.length b,.bool r.rest],cv] X fun e w'=>e=.returned (.tuple #[.string (zb9 r caps),.int .i64 0])∧zB X w'):
  Calls prog 138 #[.agg #[.bool ex,.slice A l.parts.length a,.bool l.rest,.slice B r.parts.length b,.bool r.rest],.string s] w (zbi w (zbh l r s)):=by
 have hB:=z0l w [.bool ex,.slice A l.parts.length a,.bool l.rest,.slice B r.parts.length b,.bool r.rest] 74;have hA:zB w (w.alloc (.cells #[.bool ex,.slice A l.parts.length a,.bool l.rest,.slice B r.parts.length b,.bool r.rest] 74)):=(Below.refl _ _).alloc (Nat.le_refl _) _;have HC:=hd_ (fun X (hX:zB w X)=>zmw ex l r A B a b X (hl.below hX) (hr.below hX) h1 h2 h3 h4);have HM:=hd_ (fun X (hX:zB w X)=>zcf l s A a X (he.below hX) hs (hl.below hX).1 hl.small);have HFI:=hd_ hF;have HF:=hd_ hf;have HR:Hid (zbh l r s=(z8g l s).map (zb9 r)):=hd_ rfl;clear he hl hr hf hF h1 h2 h3 h4;generalize zbh l r s=o at HR ⊢;go_enter func138,ntmps138;go_upto_region 1 with fail;generalize w.alloc (.cells #[.bool ex,.slice A l.parts.length a,.bool l.rest,.slice B r.parts.length b,.bool r.rest] 74)=W1 at hA hB ⊢;obtain⟨d0,d1,d2,d3,d4⟩:=(⟨hB.cell 0,hB.cell 1,hB.cell 2,hB.cell 3,hB.cell 4⟩:W1.cell? ⟨w.heap.size,0,none⟩=some (.bool ex)∧W1.cell? ⟨w.heap.size,1,none⟩=some (.slice A l.parts.length a)∧W1.cell? ⟨w.heap.size,2,none⟩=some (.bool l.rest)∧W1.cell? ⟨w.heap.size,3,none⟩=some (.slice B r.parts.length b)∧W1.cell? ⟨w.heap.size,4,none⟩=some (.bool r.rest));have HB:=hd_ hB;have HA:=hd_ hA;have HC1:=hd_ (HC.out W1 hA);clear hA hB HC;go_wp2_with fail;refine HC1.out.mono ?_;rintro e w2 ⟨rfl,hb⟩;dsimp only;have HX2:=hd_ (HB.out.below hb HB.out.lt);have HB2:=hd_ (z0r HA.out hb);have HM2:=hd_ (HM.out w2 HB2.out);clear hb d0 d1 d2 d3 d4 HC1 HM HB;obtain⟨d1,d2⟩:=(⟨HX2.out.cell 1,HX2.out.cell 2⟩:w2.cell? ⟨w.heap.size,1,none⟩=some (.slice A l.parts.length a)∧w2.cell? ⟨w.heap.size,2,none⟩=some (.bool l.rest));go_wp2_with fail;refine HM2.out.mono ?_;rintro e w3 ⟨A3,n3,c3,rfl,hb,hm⟩;dsimp only;have HB3:=hd_ (z0r HB2.out hb);have HX3:=hd_ (HX2.out.below hb HX2.out.lt);clear hb d1 d2 HM2 HX2;cases hq:z8g l s with
 | none =>
  rw[hq] at HR;have HR2:Hid (o=none):=hd_ HR.out;clear hm hq HR;go_wp2_with fail;go_ret2;exact⟨by rw[HR2.out];rfl,HB3.out⟩
 | some caps =>
  rw[hq] at HR;have HR2:Hid (o=some (zb9 r caps)):=hd_ HR.out;obtain⟨-,hst⟩:=hm caps hq;have HCA:=hd_ (HFI.out w3 caps _ HB3.out hst (HF.out caps hq));clear hm hq HR hst HFI HF;obtain⟨d3,d4⟩:=(⟨HX3.out.cell 3,HX3.out.cell 4⟩:w3.cell? ⟨w.heap.size,3,none⟩=some (.slice B r.parts.length b)∧w3.cell? ⟨w.heap.size,4,none⟩=some (.bool r.rest));go_wp2_with fail;refine HCA.out.mono ?_;rintro e w4 ⟨rfl,hb⟩;dsimp only;have HB4:=hd_ (z0r HB3.out hb);clear hb d3 d4 HCA;go_wp2_with fail;go_ret2;exact⟨by rw[HR2.out];rfl,HB4.out⟩
section
variable {u0 u1 u2 u3 u4 u5 u6 u7 u8 u9 gA gC gD gE gF gG gH gI gJ gK gL gM gN gO gP gQ gR gT gV gW gX gY gZ i6 i7 i8 ia ib ic : Value}
theorem zn9 {w:World}{g:Nat}{t:TypeId}{cs:List Value}{v:Value}{l:List ByteArray}(hB:Blk w g t cs)(hns:∀ u∈cs,∀ s,u≠.string s)(h:Strs w v l)(i:Nat)(u:Value):Strs (w.setCell ⟨g,i,none⟩ u) v l:=by
  obtain⟨A,c,rfl,hc,hm,hl,h0,hx⟩:=h;refine⟨A,c,rfl,hc,hm,hl,h0,fun hn=>?_⟩;obtain⟨ad,rfl,hb,hcell⟩:=hx hn;refine⟨ad,rfl,by simpa using hb,fun j x hx2=>?_⟩
  have hq:=hcell j x hx2;by_cases hg:ad.block=g
  · exfalso
    rw[List.getElem?_map] at hx2;obtain⟨s,-,rfl⟩:=Option.map_eq_some_iff.1 hx2;unfold World.cell? at hq
    unfold Blk at hB;rw[show (ad.add j).block=g from (z00 ad j).trans hg,hB] at hq;simp at hq
    exact hns _ (List.mem_of_getElem? hq.2) s rfl
  · rw[World.cell?_setCell_far _ _ _ _ (fun e=>hg ((z00 ad j).symm.trans e.symm))]
    exact hq
theorem rt_end2 {w6:World}{g n m c d:Nat}{A C:Option Addr}{b1 b2 b3:Bool}{v:Value}{l:List ByteArray}(hB:Blk w6 g 74 [.bool false,.slice none 0 0,.bool false,.slice none 0 0,.bool false])(h:Strs w6 v l):
    Strs (((((w6.setCell ⟨g,0,none⟩ (.bool b1)).setCell ⟨g,1,none⟩ (.slice A n c)).setCell ⟨g,2,none⟩ (.bool b2)).setCell ⟨g,3,none⟩ (.slice C m d)).setCell ⟨g,4,none⟩ (.bool b3)) v l:=by
  have g1:=zn9 hB (by simp) h 0 (.bool b1)
  have B1:=hB.set_ 0 (.bool b1);have g2:=zn9 B1 (by simp) g1 1 (.slice A n c)
  have B2:=B1.set_ 1 (.slice A n c);have g3:=zn9 B2 (by simp) g2 2 (.bool b2)
  have B3:=B2.set_ 2 (.bool b2);have g4:=zn9 B3 (by simp) g3 3 (.slice C m d)
  have B4:=B3.set_ 3 (.slice C m d);exact zn9 B4 (by simp) g4 4 (.bool b3)
theorem rrR5 (ops:Array Oper)(hops:Tryz.f31.body.bind (z0x 5)=some ops)(Q:Exit→Act→World→Prop)(l r h m:Pat)(A B C H:Option Addr)(a b c n hc g1 g6:Nat)(V1:World)
    (h1:Blk V1 g1 71 [.slice A l.parts.length a,.bool l.rest,.slice C r.parts.length c,.bool r.rest,.slice H n hc]) (h6:zb5 V1 g6 (.slice B h.parts.length b) h.rest)
    (hl:z9j V1 (.slice A l.parts.length a) l) (hh:z9j V1 (.slice B h.parts.length b) h) (hr:z9j V1 (.slice C r.parts.length c) r) (hn:zck l r h m) (hsym:zn4 l h)
    (hQ:∀(eA eB eC eD eE eF eG eH:Value) (g7:Nat) (A' C':Option Addr) (a' c':Nat) (w':World),zB V1 w'→w'.cell? ⟨g7,3,none⟩=some (.slice C' (zcj l r m).parts.length c')→w'.cell? ⟨g7,4,none⟩=some (.bool true)→V1.heap.size≤g7→z9j w' (.slice C' (zcj l r m).parts.length c') (zcj l r m)→Q .normal ⟨#[u0,.pointer (some ⟨g1,0,none⟩),u2,u3,u4,u5,.pointer (some ⟨g6,0,none⟩),.pointer (some ⟨g7,0,none⟩),.bool true,.int .i64 0,gA,gC,gD,gE,gF,gG,gH,eA,eB,eC,eD,eE,eF,eG,eH,gQ,gR,gT,gV,gW,gX,gY,gZ,i6,i7,i8,ia,ib,ic],[]⟩ w'):
    (Code.region 5 ops true).wp prog Q ⟨#[u0,.pointer (some ⟨g1,0,none⟩),u2,u3,u4,u5,.pointer (some ⟨g6,0,none⟩),u7,u8,u9,gA,gC,gD,gE,gF,gG,gH,gI,gJ,gK,gL,gM,gN,gO,gP,gQ,gR,gT,gV,gW,gX,gY,gZ,i6,i7,i8,ia,ib,ic],[]⟩ V1:=by
  simp only[Tryz.f31,Option.bind_some,z0x] at hops
  simp at hops
  subst hops;have HQ:=hd_ hQ;have H6:=hd_ h6;have HLI:=hd_ (fun X=>zn7 A C l.parts.length r.parts.length a c l.rest r.rest (.slice H n hc) X);have HNA:=hd_ (fun X (hX:zB V1 X)=>zn5 false l r h m A B C a b c X (hl.below hX) (hh.below hX) (hr.below hX) hn hsym);obtain⟨x0,x1,x2,x3,x4⟩:=(⟨h1.cell 0,h1.cell 1,h1.cell 2,h1.cell 3,h1.cell 4⟩:V1.cell? ⟨g1,0,none⟩=some (.slice A l.parts.length a)∧V1.cell? ⟨g1,1,none⟩=some (.bool l.rest)∧V1.cell? ⟨g1,2,none⟩=some (.slice C r.parts.length c)∧V1.cell? ⟨g1,3,none⟩=some (.bool r.rest)∧V1.cell? ⟨g1,4,none⟩=some (.slice H n hc));have y0:=h6.c0;have y1:=h6.c1;have hVA:zB V1 (V1.alloc (.cells #[.bool false,.slice none 0 0,.bool false,.slice none 0 0,.bool false] 74)).drew:=((Below.refl _ _).alloc (Nat.le_refl _) _).drew;have a0:(V1.alloc (.cells #[.bool false,.slice none 0 0,.bool false,.slice none 0 0,.bool false] 74)).drew.cell? ⟨g6,0,none⟩=some (.slice B h.parts.length b):=(h6.low hVA).c0;have a1:(V1.alloc (.cells #[.bool false,.slice none 0 0,.bool false,.slice none 0 0,.bool false] 74)).drew.cell? ⟨g6,1,none⟩=some (.bool h.rest):=(h6.low hVA).c1;have hq:=h1.below hVA h1.lt;obtain⟨b0,b1,b2,b3,b4⟩:=(⟨hq.cell 0,hq.cell 1,hq.cell 2,hq.cell 3,hq.cell 4⟩:(V1.alloc (.cells #[.bool false,.slice none 0 0,.bool false,.slice none 0 0,.bool false] 74)).drew.cell? ⟨g1,0,none⟩=some (.slice A l.parts.length a)∧(V1.alloc (.cells #[.bool false,.slice none 0 0,.bool false,.slice none 0 0,.bool false] 74)).drew.cell? ⟨g1,1,none⟩=some (.bool l.rest)∧(V1.alloc (.cells #[.bool false,.slice none 0 0,.bool false,.slice none 0 0,.bool false] 74)).drew.cell? ⟨g1,2,none⟩=some (.slice C r.parts.length c)∧(V1.alloc (.cells #[.bool false,.slice none 0 0,.bool false,.slice none 0 0,.bool false] 74)).drew.cell? ⟨g1,3,none⟩=some (.bool r.rest)∧(V1.alloc (.cells #[.bool false,.slice none 0 0,.bool false,.slice none 0 0,.bool false] 74)).drew.cell? ⟨g1,4,none⟩=some (.slice H n hc));clear hQ h1 h6 hl hh hr hn hsym hVA hq;refine wp_region_noPanic ?_
  go_region_law (first
    | (go_simp;go_at_call 28;refine (HLI.out _).mono ?_;rintro e w5 ⟨rfl,hX5⟩;have hS5:zB V1 w5:=(by repeat (first | exact Below.refl _ _ | refine Below.drew ?_ | refine z0u ?_ _):zB V1 _).trans (hX5.mono (by simp));have z0:w5.cell? ⟨g6,0,none⟩=some (.slice B h.parts.length b):=(H6.out.low hS5).c0;have z1:w5.cell? ⟨g6,1,none⟩=some (.bool h.rest):=(H6.out.low hS5).c1;have z2:(w5.alloc (.cells #[.bool false,.slice none 0 0,.bool false,.slice none 0 0,.bool false] 74)).cell? ⟨g6,0,none⟩=some (.slice B h.parts.length b):=(H6.out.low (hS5.alloc hS5.size _)).c0;have z3:(w5.alloc (.cells #[.bool false,.slice none 0 0,.bool false,.slice none 0 0,.bool false] 74)).cell? ⟨g6,1,none⟩=some (.bool h.rest):=(H6.out.low (hS5.alloc hS5.size _)).c1)
    | (go_simp;go_at_call 62;refine (HNA.out _ (by repeat (first | exact hS5 | refine Below.drew ?_ | refine z0u ?_ _))).mono ?_;rintro e w6 ⟨hX6,A',c',C',d',rfl,-,hin⟩;(try (have hblk:=Blk.below (z0l w5 [.bool false,.slice none 0 0,.bool false,.slice none 0 0,.bool false] 74) hX6 (by simp);have hge:V1.heap.size≤w5.heap.size:=hS5.size;have hS6:=z0r (hS5.alloc hS5.size _) hX6;have qq:=rule0 hblk;obtain⟨⟨p0,p1,p2,p3,p4⟩,k0,k1,k2,k3,k4⟩:=qq));(try (have hblk:=zkr hX5 hX6;have hge:V1.heap.size≤V1.heap.size:=Nat.le_refl _;have hS6:=z0r hS5 hX6;have qq:=rule0 hblk;obtain⟨⟨p0,p1,p2,p3,p4⟩,k0,k1,k2,k3,k4⟩:=qq))))
  all_goals refine NoPanic.normal ?_
  all_goals first
    | (have hq9:=rt_end hS6 hblk hge (.bool false) (.slice A' m.parts.length c') (.bool true) (.slice C' (zcj l r m).parts.length d') (.bool true)
       obtain⟨e1,e2,e3⟩:=hq9;exact HQ.out _ _ _ _ _ _ _ _ _ A' C' c' d' _ e1 e2 e3 hge ⟨rt_end2 hblk hin.1,hin.2⟩)
    | (have hS6:=z0r hS5 hX6
       have hnew:=z0l w6 [.bool false,.slice A' m.parts.length c',.bool true,.slice C' (zcj l r m).parts.length d',.bool true] 74;exact HQ.out _ _ _ _ _ _ _ _ _ A' C' c' d' _ (hS6.alloc hS6.size _) (hnew.cell 3) (hnew.cell 4) hS6.size (hin.below ((Below.refl _ _).alloc (Nat.le_refl _) _)))
end
open Go.Sort (grow)
def DrPost (w:World)(l:List Hav)(e:Ending)(w':World):Prop:=∃(v:Value) (c:Int),e=.returned (.tuple #[v,.int .i64 c])∧z4h w' v l∧zB w w'
theorem zpp {l:List Hav}{p:ByteArray}(h:z6k l p=none):l.filter (fun a=>decide (a.path≠p))=l:=List.filter_eq_self.2 fun a ha=>decide_eq_true (z68.1 h a ha)
theorem drop_take {l:List Hav}{p:ByteArray}{k:Nat}(hk:k<l.length):(l.take (k+1)).filter (fun a=>decide (a.path≠p))=(l.take k).filter (fun a=>decide (a.path≠p))++if l[k].path=p then [] else [l[k]]:=by
 rw[List.take_succ_eq_append_getElem hk,List.filter_append];congr 1
 by_cases h:l[k].path=p
 ·rw[if_pos h,List.filter_cons_of_neg (by simpa using h)];rfl
 ·rw[if_neg h,List.filter_cons_of_pos (by simpa using h)];rfl
theorem zpq (l:List Hav)(v:Value)(Ap:Option Addr)(cp:Nat)(p:ByteArray)(w:World)(hL:z4h w v l)(hP:Strs w (.slice Ap 1 cp) [p])(hl:l.length≤1000000):
  Calls prog 98 #[v,.slice Ap 1 cp] w (DrPost w (l.filter (fun a=>decide (a.path≠p)))):=by
 obtain⟨A,c,rfl,-⟩:=id hL;have HL:=hd_ hL;have HP:=hd_ hP;have HLL:=hd_ hl;have HDN:=hd_ (fun h=>zpp (l:=l) (p:=p) h);clear hL hP;go_enter func98,ntmps98;go_wp2_with fail;go_loopw [6] (fun i wr=>∃ k:Nat,k≤1∧i=.int .i64 k∧Hid (zB w wr)) (fun i _=>1 - (intOf i).toNat)
 case atStart=>exact⟨0,Nat.zero_le _,rfl,hd_ (Below.refl _ _)⟩
 case round =>
  obtain⟨k,hk,rfl,HB⟩:=hrel;by_cases hlt:k<1
  ·obtain rfl:k=0:=by omega
   obtain⟨ad,rfl,hab,s0⟩:=Strs.at_ (l:=[p]) (HP.out.below HB.out) (k:=0) (by simp)
   have s0:wr.cell? ad=some (.string p):=by
    have e0:ad.add 0=ad:=by unfold Addr.add;simp
    rw[← e0];exact s0
   have HG:=hd_ (zo5 l (.slice A l.length c) p wr (HL.out.below HB.out) hl);have HG:Hid (Calls prog 94 #[.slice A l.length c,.string p] wr fun e w'=>e=.returned (.tuple #[.agg #[.string (((z64 Hav.path l p).getD zo2)).path,.int .i64 (((z64 Hav.path l p).getD zo2)).num,.string (((z64 Hav.path l p).getD zo2)).loc],.bool (z64 Hav.path l p).isSome])∧zB wr w'):=HG;generalize (z64 Hav.path l p).getD zo2=z at HG;cases ho:z64 Hav.path l p with
   | none =>
    rw[ho] at HG;have HN:=hd_ (HDN.out ho);clear ho;go_wp2_with fail;refine HG.out.mono ?_;rintro e w2 ⟨rfl,hb⟩;dsimp only;have hb2:=z0r HB.out hb;have HB3:=hd_ (z0r hb2 ((Below.refl w2.heap.size w2).alloc (Nat.le_refl _) (.cells #[.string z.path,.int .i64 z.num,.string z.loc] 96)));clear hb hb2 s0;go_wp2_with fail;go_ret2;exact⟨_,_,rfl,by rw[HN.out];exact HL.out.below HB3.out,HB3.out⟩
   | some a =>
    rw[ho] at HG;clear ho;go_wp2_with fail;refine HG.out.mono ?_;rintro e w2 ⟨rfl,hb⟩;dsimp only;have hb2:=z0r HB.out hb;have HB3:=hd_ (z0r hb2 ((Below.refl w2.heap.size w2).alloc (Nat.le_refl _) (.cells #[.string z.path,.int .i64 z.num,.string z.loc] 96)));clear hb hb2 s0;go_wp2_with fail;go_roundw
    case rel=>exact⟨1,Nat.le_refl _,rfl,HB3⟩
    case measure=>simp [intOf]
  ·have hz:¬((k:Int)<1):=by omega
   clear hk hlt;obtain⟨V1,hV⟩:∃ X,X=wr:=⟨_,rfl⟩;subst hV;go_wp2_with fail;go_loopw [9,10] (fun o i wr=>∃(k:Nat) (A3:Option Addr) (c3:Nat),k≤l.length∧i=.int .i64 k∧o=.slice A3 ((l.take k).filter (fun a=>decide (a.path≠p))).length c3∧Hid (zB V1 wr∧wr.ownsRow V1.heap.size 96 3 (.slice A3 ((l.take k).filter (fun a=>decide (a.path≠p))).length c3) ((l.take k).filter (fun a=>decide (a.path≠p))).length (((l.take k).filter (fun a=>decide (a.path≠p))).flatMap Hav.cells))) (fun _ i _=>l.length - (intOf i).toNat)
   case atStart=>exact⟨0,none,0,Nat.zero_le _,rfl,rfl,hd_ ⟨Below.refl _ _,World.ownsRow_nil _ _ _ _⟩⟩
   case round =>
    obtain⟨k,A3,c3,hk,rfl,rfl,HI⟩:=hrel;by_cases hlt:k<l.length
    ·have HT:=hd_ (drop_take (p:=p) hlt);obtain⟨ad,hA,hab,s0,s1,s2⟩:=z4h.at_ (HL.out.below (z0r HB.out HI.out.1)) hlt;subst hA;have hfl:((l.take k).filter (fun a=>decide (a.path≠p))).length≤1000000:=Nat.le_trans (List.length_filter_le ..) (by rw[List.length_take];omega)
     have HLT:=hd_ hlt;generalize hF:(l.take k).filter (fun a=>decide (a.path≠p))=F at HI HT hfl ⊢;generalize hx:l[k]=x at s0 s1 s2 HT;have HX:=hd_ hx;have HFL:=hd_ hfl;clear hF hab hx;go_wp2_with fail;obtain⟨V2,hV⟩:∃ X,X=wr:=⟨_,rfl⟩;subst hV;go_loopw [11,12] (fun gv i wr=>∃ j:Nat,j≤1∧i=.int .i64 j∧gv=.bool (decide (j=1∧x.path=p))∧Hid (zB V2 wr)) (fun _ i _=>1 - (intOf i).toNat)
     case atStart=>exact⟨0,Nat.zero_le _,rfl,by simp,hd_ (Below.refl _ _)⟩
     case round =>
      obtain⟨j,hj,rfl,rfl,HJ⟩:=hrel;by_cases hj0:j<1
      ·obtain rfl:j=0:=by omega
       have hbX:=HB.out.trans ((HI.out.1.trans (HJ.out.mono HI.out.1.size)).mono HB.out.size);obtain⟨ap,rfl,hab2,u0⟩:=Strs.at_ (l:=[p]) (HP.out.below hbX) (k:=0) (by simp)
       have u0:wr.cell? ap=some (.string p):=by
        have e0:ap.add 0=ap:=by unfold Addr.add;simp
        rw[← e0];exact u0
       obtain⟨ad3,e3,hab3,hld3⟩:=z4h.at_ (HL.out.below hbX) HLT.out;injection e3 with e3
       subst e3;obtain⟨t0,-,-⟩:=zpk HX.out hld3;clear hld3 hab2 hab3 hbX hj hj0 s0 s1 s2;by_cases hpx:x.path=p
       ·have q1:(p.toList == x.path.toList)=true:=by rw[z42,decide_eq_true hpx.symm]
        have HPX:=hd_ hpx;clear hpx;go_upto_region 15 with fail;go_quiet (fail)
        clear u0 t0;go_wp2_with fail;go_roundw
        case rel=>exact⟨1,Nat.le_refl _,rfl,by rw[decide_eq_true (⟨rfl,HPX.out⟩:(1:Nat)=1∧x.path=p)],z0p HJ.out _⟩
        case measure=>simp [intOf]
       ·have q1:(p.toList == x.path.toList)=false:=by rw[z42,decide_eq_false (fun e=>hpx e.symm)]
        have HPX:=hd_ hpx;clear hpx;go_upto_region 15 with fail;go_quiet (fail)
        clear u0 t0;go_wp2_with fail;go_roundw
        case rel=>exact⟨1,Nat.le_refl _,rfl,by rw[decide_eq_false (fun h:(1:Nat)=1∧x.path=p=>HPX.out h.2)],z0p HJ.out _⟩
        case measure=>simp [intOf]
      ·have je:j=1:=by omega
       have hz2:¬((j:Int)<1):=by omega
       have hbX:=HI.out.1.trans (HJ.out.mono HI.out.1.size);have HOX:=hd_ (z0n HI.out.2 HJ.out);obtain⟨ad3,e3,hab3,hld3⟩:=z4h.at_ (HL.out.below (HB.out.trans (hbX.mono HB.out.size))) HLT.out;injection e3 with e3
       subst e3;obtain⟨t0,t1,t2⟩:=zpk HX.out hld3;clear hld3;have HBX:=hd_ hbX;clear hab3 hbX hj hj0 s0 s1 s2 HJ HI;by_cases hpx:x.path=p
       ·have hd:decide (j=1∧x.path=p)=true:=decide_eq_true ⟨je,hpx⟩;have HPX:=hd_ hpx;rw[hd];clear hd hpx je;go_wp2_with fail;go_roundw
        case rel =>
         refine⟨k+1,A3,c3,HLT.out,by go_num,?_,?_⟩
         ·rw[HT.out,if_pos HPX.out,List.append_nil]
         ·rw[HT.out,if_pos HPX.out,List.append_nil];exact hd_ ⟨HBX.out,HOX.out⟩
        case measure=>have:=HLT.out;simp [intOf];omega
       ·have hd:decide (j=1∧x.path=p)=false:=decide_eq_false fun h=>hpx h.2;have HPX:=hd_ hpx;rw[hd];clear hd hpx je;have HO8:=hd_ (z0n HOX.out ((Below.refl wr.heap.size wr).alloc (Nat.le_refl _) (.cells #[.string x.path,.int .i64 x.num,.string x.loc] 96)));have HL8:=hd_ (HBX.out.alloc HBX.out.size (.cells #[.string x.path,.int .i64 x.num,.string x.loc] 96));have hrow:=z0i wr [.string x.path,.int .i64 x.num,.string x.loc] 96 3 1 rfl (by decide) _ rfl
        have hfl:=HFL.out;go_wp2_with (at_builtin;refine z0k rfl rfl z5a HO8.out rfl hrow rfl HL8.out HL8.out.size (z5b x) (by omega) (by unfold maxLen;omega) ?_;intro A9 c9 w9 hown9 hbl9)
        have HN:=hd_ (And.intro hbl9 hown9);clear hown9 hbl9 hrow hfl;go_wp2_with fail;go_roundw
        case rel =>
         refine⟨k+1,A9,c9,HLT.out,by go_num,?_,?_⟩
         ·rw[HT.out,if_neg HPX.out,List.length_append];rfl
         ·rw[HT.out,if_neg HPX.out,List.length_append,List.length_singleton,List.flatMap_append];exact HN
        case measure=>have:=HLT.out;simp [intOf];omega
    ·obtain rfl:k=l.length:=by omega
     clear hk hlt;have HI2:=HI;simp only[List.take_length] at HI ⊢
     go_wp2_with fail;go_ret2;exact⟨_,_,rfl,Row.of_own HI.out.2,z0r HB.out HI.out.1⟩
theorem zqu {P:List Syn}{p:ByteArray}{k:Nat}(hk:k<P.length)(h:∀ j (hj:j<P.length),j<k→P[j].path≠p)(e:P[k].path=p):zqi P p=z3t P[k].kind:=by
 have hg:z6l P p=some P[k]:=by
  show P.find? _=_
  rw[List.find?_eq_some_iff_getElem];exact⟨by simpa using e,k,hk,rfl,fun j hj=>by simpa using h j (by omega) hj⟩
 unfold zqi;rw[hg]
theorem zqv {P:List Syn}{p:ByteArray}(h:∀ j (hj:j<P.length),P[j].path≠p):zqi P p=true:=by
 have hg:z6l P p=none:=z68.2 fun a ha=>by
  obtain⟨j,hj,rfl⟩:=List.getElem_of_mem ha;exact h j hj
 unfold zqi;rw[hg]
theorem zqw (P:List Syn)(v:Value)(p:ByteArray)(w:World)(hS:z57 w v P)(hl:P.length≤1000000):
  Calls prog 155 #[v,.string p] w fun e w'=>e=.returned (.bool (zqi P p))∧zB w w':=by
 obtain⟨A,c,rfl,-⟩:=id hS;have HS:=hd_ hS;clear hS;go_enter func155,ntmps155;go_wp2_with fail;go_loopw [5] (fun i wr=>∃ k:Nat,i=.int .i64 k∧k≤P.length∧Hid ((∀ j (hj:j<P.length),j<k→P[j].path≠p)∧zB w wr)) (fun i _=>P.length - (intOf i).toNat)
 case atStart=>exact⟨0,rfl,Nat.zero_le _,hd_ ⟨fun j _ h=>by omega,Below.refl _ _⟩⟩
 case round =>
  obtain⟨k,rfl,hk,HI⟩:=hrel;by_cases hlt:k<P.length
  ·obtain⟨ad,rfl,hab,y0,y1,y2,y3,y4⟩:=z57.at_ (HS.out.below HI.out.2) hlt;have HY:=hd_ (zqu hlt HI.out.1);have HN:Hid (P[k].path≠p→∀ j (hj:j<P.length),j<k+1→P[j].path≠p):=hd_ fun h j hj hjk=>by
    by_cases e:j=k
    ·subst e;exact h
    ·exact HI.out.1 j hj (by omega)
   generalize P[k]=x at y0 y1 y2 y3 y4 HY HN;have HB:=hd_ HI.out.2;have HLT:=hd_ hlt;clear y2 y3 y4 hab;by_cases h1:x.path=p
   ·have q1:(x.path.toList == p.toList)=true:=by rw[z42,decide_eq_true h1]
    have HR:=hd_ (HY.out h1);clear h1 HI;rcases z3y x.kind with⟨e1,e2,e3⟩ | ⟨e1,e2,e3,e4,e5⟩ | ⟨e1,e2,e3,e4,e5⟩
    ·have HRR:=hd_ (HR.out.trans e3);clear e3;go_wp2_with fail;go_ret;exact⟨z13 HRR.out.symm,HB.out⟩
    ·have HRR:=hd_ (HR.out.trans e5);clear e5;go_wp2_with fail;go_ret;exact⟨z13 HRR.out.symm,HB.out⟩
    ·have HRR:=hd_ (HR.out.trans e5);clear e5;go_wp2_with fail;go_ret;exact⟨z13 HRR.out.symm,HB.out⟩
   ·have q1:(x.path.toList == p.toList)=false:=by rw[z42,decide_eq_false h1]
    have HR:=hd_ (HN.out h1);clear h1 HI;go_wp2_with fail;go_roundw
    case rel=>exact⟨k+1,by go_num,by have:=HLT.out;omega,hd_ ⟨HR.out,HB.out⟩⟩
    case measure=>have:=HLT.out;simp [intOf];omega
  ·have hke:k=P.length:=by omega
   have HR:=hd_ (zqv (P:=P) (p:=p) fun j hj=>HI.out.1 j hj (by omega))
   have HB:=hd_ HI.out.2;subst hke;clear HI;go_wp2_with fail;go_ret;exact⟨z13 HR.out.symm,HB.out⟩
theorem zqx (hs:List Hav)(P:List Syn)(x:Syn)(hv pv:Value)(w:World)(hH:z4h w hv hs)(hS:z57 w pv P)(hl:hs.length≤1000000)(hl2:P.length≤1000000):
  Calls prog 97 #[hv,pv,.agg #[.int .i64 x.kind,.string x.path,.int .i64 x.num,.string x.frm,.string x.dst]] w fun e w'=>e=.returned (.bool (zqj hs P x))∧zB w w':=by
 obtain⟨Ah,ch,rfl,-⟩:=id hH;obtain⟨Ap,cp,rfl,-⟩:=id hS;have hA:zB w (w.alloc (.cells #[.int .i64 x.kind,.string x.path,.int .i64 x.num,.string x.frm,.string x.dst] 50)):=(Below.refl _ _).alloc (Nat.le_refl _) _;have HB0:=hd_ (z0l w [.int .i64 x.kind,.string x.path,.int .i64 x.num,.string x.frm,.string x.dst] 50);have HG:Hid (Calls prog 59 #[.slice Ah hs.length ch,.string x.dst] (w.alloc (.cells #[.int .i64 x.kind,.string x.path,.int .i64 x.num,.string x.frm,.string x.dst] 50)) fun e w'=>e=.returned (.tuple #[.agg #[.string (((z64 Hav.loc hs x.dst).getD zo2)).path,.int .i64 (((z64 Hav.loc hs x.dst).getD zo2)).num,.string (((z64 Hav.loc hs x.dst).getD zo2)).loc],.bool (z64 Hav.loc hs x.dst).isSome])∧Below (w.alloc (.cells #[.int .i64 x.kind,.string x.path,.int .i64 x.num,.string x.frm,.string x.dst] 50)).heap.size (w.alloc (.cells #[.int .i64 x.kind,.string x.path,.int .i64 x.num,.string x.frm,.string x.dst] 50)) w'):=hd_ (zo6 hs (.slice Ah hs.length ch) x.dst _ (hH.below hA) hl);have HST:=hd_ (fun X (hX:zB w X) p=>zqw P (.slice Ap P.length cp) p X (hS.below hX) hl2);have HOC:Hid (zqj hs P x=(decide (x.dst≠z2q) && match z64 Hav.loc hs x.dst with | none=>false | some h=>decide (h.path≠x.path) && zqi P h.path)):=hd_ rfl
 obtain⟨z0,z1,z2,z3,z4⟩:=z3w (x:=x) HB0.out;have HA:=hd_ hA;clear hA hH hS;cases ho:z64 Hav.loc hs x.dst with
 | none =>
  rw[ho] at HG HOC;generalize (none:Option Hav).getD zo2=z at HG;clear ho;go_enter func97,ntmps97;go_wp2_with fail;refine HG.out.mono ?_;rintro e w2 ⟨rfl,hb⟩;dsimp only;have hA2:zB w2 (w2.alloc (.cells #[.string z.path,.int .i64 z.num,.string z.loc] 96)):=(Below.refl _ _).alloc (Nat.le_refl _) _;have HB3:=hd_ ((HB0.out.below hb HB0.out.lt).alloc (.cells #[.string z.path,.int .i64 z.num,.string z.loc] 96));have HZ3:=hd_ (z0l w2 [.string z.path,.int .i64 z.num,.string z.loc] 96);have HA3:=hd_ (z0r (z0r HA.out hb) hA2);clear hb hA2 z0 z1 z2 z3 z4 HG HB0 HA;go_upto_region 2 with fail;generalize w2.alloc (.cells #[.string z.path,.int .i64 z.num,.string z.loc] 96)=W3 at HB3 HZ3 HA3 ⊢;generalize w2.heap.size=g3 at HZ3 ⊢;obtain⟨z0,z1,z2,z3,z4⟩:=z3w (x:=x) HB3.out;obtain⟨y0,y1,y2⟩:=z3x (x:=z) HZ3.out;by_cases hd:x.dst=z2q
  ·obtain⟨s1,s2⟩:=z40 hd;have HR:Hid (zqj hs P x=false):=hd_ (by rw[HOC.out,decide_eq_false (fun h=>h hd),Bool.false_and])
   clear hd HOC;go_wp2_with fail;go_ret;exact⟨z13 HR.out.symm,HA3.out⟩
  ·obtain⟨s1,s2⟩:=z41 hd;have HR:Hid (zqj hs P x=false):=hd_ (by rw[HOC.out];exact Bool.and_false _)
   clear hd HOC;go_wp2_with fail;go_ret;exact⟨z13 HR.out.symm,HA3.out⟩
 | some z =>
  rw[ho] at HG HOC;have HG:=HG;simp only[Option.getD_some] at HG
  clear ho;go_enter func97,ntmps97;go_wp2_with fail;refine HG.out.mono ?_;rintro e w2 ⟨rfl,hb⟩;dsimp only;have hA2:zB w2 (w2.alloc (.cells #[.string z.path,.int .i64 z.num,.string z.loc] 96)):=(Below.refl _ _).alloc (Nat.le_refl _) _;have HB3:=hd_ ((HB0.out.below hb HB0.out.lt).alloc (.cells #[.string z.path,.int .i64 z.num,.string z.loc] 96));have HZ3:=hd_ (z0l w2 [.string z.path,.int .i64 z.num,.string z.loc] 96);have HA3:=hd_ (z0r (z0r HA.out hb) hA2);clear hb hA2 z0 z1 z2 z3 z4 HG HB0 HA;go_upto_region 2 with fail;generalize w2.alloc (.cells #[.string z.path,.int .i64 z.num,.string z.loc] 96)=W3 at HB3 HZ3 HA3 ⊢;generalize w2.heap.size=g3 at HZ3 ⊢;obtain⟨z0,z1,z2,z3,z4⟩:=z3w (x:=x) HB3.out;obtain⟨y0,y1,y2⟩:=z3x (x:=z) HZ3.out;by_cases hd:x.dst=z2q
  ·obtain⟨s1,s2⟩:=z40 hd;have HR:Hid (zqj hs P x=false):=hd_ (by rw[HOC.out,decide_eq_false (fun h=>h hd),Bool.false_and])
   clear hd HOC;go_wp2_with fail;go_ret;exact⟨z13 HR.out.symm,HA3.out⟩
  ·obtain⟨s1,s2⟩:=z41 hd;have HRR:Hid (zqj hs P x=(decide (z.path≠x.path) && zqi P z.path)):=hd_ (by rw[HOC.out,decide_eq_true hd,Bool.true_and])
   clear hd HOC;by_cases hp:z.path=x.path
   ·have q1:(z.path.toList == x.path.toList)=true:=by rw[z42,decide_eq_true hp]
    have HR:Hid (zqj hs P x=false):=hd_ (by rw[HRR.out,decide_eq_false (fun h=>h hp),Bool.false_and])
    clear hp;go_wp2_with fail;go_ret;exact⟨z13 HR.out.symm,HA3.out⟩
   ·have q1:(z.path.toList == x.path.toList)=false:=by rw[z42,decide_eq_false hp]
    have HR:Hid (zqj hs P x=zqi P z.path):=hd_ (by rw[HRR.out,decide_eq_true hp,Bool.true_and])
    have HC:=hd_ (HST.out W3 HA3.out z.path);generalize zqi P z.path=b at HC HR;clear hp;go_wp2_with fail;refine HC.out.mono ?_;rintro e w4 ⟨rfl,hb⟩;have HA4:=hd_ (z0r HA3.out hb);clear hb;go_wp2_with fail;go_ret;exact⟨z13 HR.out.symm,HA4.out⟩
