/- The eight mappings: their entries; they are in order, and lead where the table says. No program in sight. -/
import Derived.Test.YtegeboijhifmcaaGreatDoorMgw15
import Derived.Test.YtegeboijhifmcaaGreatDoorMgw29
import Derived.Test.YtegeboijhifmcaaGreatDoorMgw6
import Derived.Test.YtegeboijhifmcaaGreatDoorMgw8
import Derived.Test.YtegeboijhifmcaaGreatDoorMgw13
import Derived.Test.YtegeboijhifmcaaGreatDoorMgw31
import Derived.Test.YtegeboijhifmcaaGreatDoorMgw32
namespace Go.Proofs.YtegeboijhifmcaaGreatDoor
set_option linter.unusedVariables false
set_option linter.unusedSimpArgs false
set_option maxHeartbeats 8000000
set_option maxRecDepth 100000
open Go.RowKit
structure EntP where
 l:Pat
 r:Pat
 hs:List Pat
def zd8.pl (x:zd8):EntP:=⟨x.l.1,x.r.1,x.hs.map (·.1)⟩
def zg1 (c:UInt8):ByteArray:=⟨#[c]⟩
def zg2:ByteArray:=⟨#[42]⟩
def zg3:Nat→List EntP
 | 0=>[⟨⟨[zg1 100],true⟩,⟨[zg1 99],true⟩,[]⟩]
 | 1=>[⟨⟨[zg1 100],true⟩,⟨[zg1 99],true⟩,[⟨[zg1 100,zg1 120],true⟩]⟩]
 | 2=>[⟨⟨[zg1 100,zg1 120],true⟩,⟨[zg1 99],true⟩,[]⟩,⟨⟨[zg1 101],true⟩,⟨[zg1 119],true⟩,[]⟩]
 | 3=>[⟨⟨[zg1 100,zg1 97],false⟩,⟨[zg1 99,zg1 98],false⟩,[]⟩,⟨⟨[zg1 100,zg1 98],false⟩,⟨[zg1 99,zg1 97],false⟩,[]⟩,⟨⟨[zg1 100,zg1 120],true⟩,⟨[zg1 99,zg1 120],true⟩,[]⟩]
 | 4=>[⟨⟨[zg1 100,zg1 97],false⟩,⟨[zg1 99,zg1 97],false⟩,[]⟩,⟨⟨[zg1 100,zg1 98],false⟩,⟨[zg1 99,zg1 98],false⟩,[]⟩,⟨⟨[zg1 101,zg1 97],false⟩,⟨[zg1 99,zg1 101],false⟩,[]⟩]
 | 5=>[⟨⟨[zg1 101],true⟩,⟨[zg1 99],true⟩,[]⟩,⟨⟨[zg1 100,zg2,zg1 97],false⟩,⟨[zg1 119,zg2,zg1 122],false⟩,[]⟩]
 | 6=>[⟨⟨[zg1 100],true⟩,⟨[zg1 99],true⟩,[]⟩,⟨⟨[zg1 101],true⟩,⟨[zg1 119],true⟩,[]⟩]
 | _=>[]
def regP (b:Pat)(hs:List Pat):Int:=if z7e b≠0 then 50 else if (hs.all fun q=>decide (z7e q=0))=false then 51 else if 64<hs.length then 52 else 0
theorem regE_pl (b:Pat)(hs:List zd1):zd3 b hs=regP b (hs.map (·.1)):=by
 unfold zd3 regP;rw[List.length_map,List.all_map];rfl
def zg4 (p:Pat):Bool:=p.rest && decide (z7e p=0) && p.parts.all fun x=>!z79 x
theorem zg5 {p:Pat}(h:zg4 p=true):zcm p:=by
 unfold zg4 at h;simp only[Bool.and_eq_true,List.all_eq_true,Bool.not_eq_true',decide_eq_true_eq] at h
 exact⟨h.1.1,h.1.2,h.2⟩
def wiB (p q:Pat):Bool:=decide (q.parts.length≤p.parts.length) && (List.range q.parts.length).all fun k=>z9s ((p.parts[k]?).getD z2l) ((q.parts[k]?).getD z2l)
theorem wiB_ok {p q:Pat}(h:wiB p q=true):WiOk p q:=by
 unfold wiB at h;simp only[Bool.and_eq_true,List.all_eq_true,decide_eq_true_eq,List.mem_range] at h
 refine⟨h.1,fun k hk=>?_⟩;have:=h.2 k hk;rw[List.getElem?_eq_getElem hk,List.getElem?_eq_getElem (Nat.lt_of_lt_of_le hk h.1)] at this;exact this
def narB (l r h:Pat):Bool:=match zai l h with
 | none=>false
 | some m=>zg4 l && zg4 r && decide (za8 l r=0) && decide (z7e h=0) && m.rest && decide (z7e m=0) && wiB m l && decide (r.parts.length+(m.parts.length - l.parts.length)≤12)
theorem narB_ok {l r h:Pat}(e:narB l r h=true):∃ m,zcw l r h m:=by
 unfold narB at e;cases hm:zai l h with
 | none=>rw[hm] at e;cases e
 | some m =>
  rw[hm] at e;simp only[Bool.and_eq_true,decide_eq_true_eq] at e
  obtain⟨⟨⟨⟨⟨⟨⟨e1,e2⟩,e3⟩,e4⟩,e5⟩,e6⟩,e7⟩,e8⟩:=e;exact⟨m,zg5 e1,zg5 e2,e3,e4,hm,e5,e6,wiB_ok e7,e8⟩
def fillB (p:Pat)(caps:List ByteArray):Bool:=
 decide (z7e p=0) && decide (caps.length=za2 p+(if p.rest then 1 else 0)) && (caps.take (za2 p)).all z0v && (!p.rest || (caps.drop (za2 p)).all fun c=>(z1a c.data.toList).all z0u) &&
  (caps.all fun c=>decide (c.size≤1000000)) && decide ((Lib.join ((zbt p caps).map (·.data.toList)) [47]).length≤1000000) && decide (0<(zbt p caps).length)
theorem zg6 {p:Pat}{caps:List ByteArray}(h:fillB p caps=true):zbv p caps:=by
 unfold fillB at h;simp only[Bool.and_eq_true,Bool.or_eq_true,Bool.not_eq_true',List.all_eq_true,decide_eq_true_eq] at h
 obtain⟨⟨⟨⟨⟨⟨h1,h2⟩,h3⟩,h4⟩,h5⟩,h6⟩,h7⟩:=h;refine⟨h1,h2,h3,fun hr c hc=>?_,h5,h6,h7⟩;rcases h4 with h4 | h4
 ·rw[h4] at hr;cases hr
 ·exact List.all_eq_true.2 (h4 c hc)
def entB (x:EntP):Bool:=decide (za8 x.l x.r=0) && decide (regP x.l x.hs=0) && x.hs.all (narB x.l x.r)
def mapB (es:List EntP):Bool:=decide (es.length≤32) && es.all entB && (List.range es.length).all fun i=>(List.range i).all fun j=>match es[i]?,es[j]? with
 | some x,some y=>(zai x.l y.l).isNone && (zai x.r y.r).isNone
 | _,_=>false
theorem mapB_ok {es:List zd8}(h:mapB (es.map zd8.pl)=true):zdj es:=by
 unfold mapB at h;simp only[Bool.and_eq_true,List.all_eq_true,decide_eq_true_eq,List.mem_range,List.length_map,List.mem_map,forall_exists_index,and_imp,forall_apply_eq_imp_iff₂] at h
 obtain⟨⟨h1,h2⟩,h3⟩:=h;refine⟨h1,fun x hx=>?_,fun i j hi hj=>?_⟩
 ·have:=h2 x hx;unfold entB at this;simp only[Bool.and_eq_true,List.all_eq_true,decide_eq_true_eq] at this
  refine⟨this.1.1,by rw[regE_pl];exact this.1.2,fun q hq=>?_⟩
  exact narB_ok (this.2 q.1 (List.mem_map.2 ⟨q,hq,rfl⟩))
 ·have:=h3 i hi j hj;rw[List.getElem?_map,List.getElem?_map,List.getElem?_eq_getElem hi,List.getElem?_eq_getElem (Nat.lt_trans hj hi)] at this;simp only[Option.map_some,Bool.and_eq_true,Option.isNone_iff_eq_none] at this
  exact this
def zg7 (x:EntP)(p:ByteArray):Option ByteArray:=match zc2 x.l x.r p with
 | none=>none
 | some s=>if x.hs.any (fun q=>(z8e q p).isSome) then none else some s
def fwdP (es:List EntP)(p:ByteArray):Option ByteArray:=es.findSome? (zg7 · p)
theorem fwdM_pl (es:List zd8)(p:ByteArray):zdt es p=fwdP (es.map zd8.pl) p:=by
 unfold zdt fwdP;induction es with
 | nil=>rfl
 | cons x es ih =>
  rw[List.map_cons,List.findSome?_cons,List.findSome?_cons,ih];have:zds x p=zg7 x.pl p:=by
   unfold zds zg7 zdp;show (match zc2 x.l.1 x.r.1 p with | none=>none | some s=>_)=(match zc2 x.l.1 x.r.1 p with | none=>none | some s=>if (x.hs.map (·.1)).any _=true then none else some s)
   rw[List.any_map];rfl
  rw[this]
theorem maps_B:∀ k<8,mapB (zg3 k)=true:=by decide +kernel
theorem zg8:∀ k<8,∀ p∈zff,fwdP (zg3 k) p=zfq k p:=by decide +kernel
theorem zg9:∀ k<8,∀ p∈zff,∀ x∈zg3 k,((z8e x.l p).map (fillB x.r)).getD true=true:=by decide +kernel
theorem zga:∀ k<8,∀ p∈zff,((zfq k p).map fun s=>decide (s.size≤200)).getD true=true:=by decide +kernel
theorem zgb {es:List zd8}{k:Nat}(hk:k<8)(h:es.map zd8.pl=zg3 k):zfs es∧∀ p∈zff,zdt es p=zfq k p:=by
 have hf:∀ p∈zff,zdt es p=zfq k p:=fun p hp=>by rw[fwdM_pl,h];exact zg8 k hk p hp
 refine⟨⟨mapB_ok (by rw[h];exact maps_B k hk),fun p hp x hx caps hc=>?_,fun p hp s hs=>?_⟩,hf⟩
 ·have:=zg9 k hk p hp x.pl (by rw[← h];exact List.mem_map.2 ⟨x,hx,rfl⟩)
  have e:z8e x.pl.l p=some caps:=hc;rw[e] at this;exact zg6 this
 ·rw[hf p hp] at hs;have:=zga k hk p hp;rw[hs] at this;simpa using this
theorem zgc {D:List Rev}{f g:ByteArray→Option ByteArray}{m:Int}(h:∀ p∈zff,f p=g p):zfk D f m=zfk D g m:=by
 unfold zfk;refine z6m fun p hp=>?_;unfold zfj;rw[h p hp]
theorem zgo {p:ByteArray}(h:p=knA∨p=knB):z2s p=true∧p.size≤200∧p.size≤140737488355328:=by
 rcases h with rfl | rfl
 ·exact⟨by decide,by decide,by decide⟩
 ·exact⟨by decide,by decide,by decide⟩
theorem knEvery (g bl be bn:Nat)(Ae:Option Addr)(ce:Nat)(w:World)(hk:Chk w g (.slice none 0 0) (.slice none 0 0) 1 ⟨#[]⟩ ⟨#[]⟩ (.slice Ae 2 ce) (.slice none 0 0) bl be bn)(hL:z7r w bl zgn)(hne:bl≠be)(hE:KnE w Ae ce){F:ByteArray→Option Edt}(hM:z7s w be F):
  Calls Tryz.prog 114 #[.pointer (some ⟨g,0,none⟩)] w fun e w'=>e=.returned (.int .i64 0)∧w.grownBy w' (some be):=by
 obtain⟨-,-,-,k5,-,-,-,-⟩:=z4a hk;have hobj:=z2f.obj hM;have HE:=hd_ hE;have HK:=hd_ hk;have HL:=hd_ hL;have HM:=hd_ hM;clear hE hk hL hM;go_enter Tryz.func114,Tryz.ntmps114;go_wp2_with fail;go_loopw [3,13] (fun b i wr=>∃(k:Nat) (b0:ByteArray) (F:ByteArray→Option Edt),i=.int .i64 k∧k≤2∧b=.string b0∧b0.size≤200∧Hid ((k=0→b0=z2l)∧(k=1→b0=knA))∧w.grownBy wr (some be)∧z7s wr be F) (fun _ i _=>2 - (intOf i).toNat)
 case atStart=>exact⟨0,z2l,F,rfl,by omega,rfl,by decide,hd_ ⟨fun _=>rfl,fun e=>by cases e⟩,World.grownBy.refl _ _,HM.out⟩
 case round =>
  obtain⟨k,b0,G,rfl,hk,rfl,hb0,HB0,hg,hM⟩:=hrel;have hKr:=Blk.turn HK.out hobj hg;have hLr:=z2f.grown HL.out hg (by intro e;injection e with e;exact hne e)
  have hEr:KnE wr Ae ce:=Row.turn HE.out (by decide) hobj hg
  by_cases hlt:k<2
  ·obtain⟨ad,p,rfl,hab,⟨x0,x1,x2,x3,x4,x5,x6,x7,x8,x9,x10,x11⟩,hp0,hp1⟩:=hEr.at_ k hlt;have hpp:p=knA∨p=knB:=by
    rcases (by omega:k=0∨k=1) with h | h
    ·exact .inl (hp0 h)
    ·exact .inr (hp1 h)
   obtain⟨hv,h200,hxs⟩:=zgo hpp;have HST:Hid ((k+1=0→p=z2l)∧(k+1=1→p=knA)):=hd_ ⟨fun e=>by omega,fun e=>hp0 (by omega)⟩
   have hcase:b0=z2l∨(b0≠z2l∧z2u b0 p<0):=by
    rcases (by omega:k=0∨k=1) with h | h
    ·exact .inl (HB0.out.1 h)
    ·rw[HB0.out.2 h,hp1 h];exact .inr ⟨by decide,by decide⟩
   have hgx:=hg.trans (zay ((Below.refl wr.heap.size wr).alloc (Nat.le_refl _) (.cells #[.string p,.int .i64 1,.int .i64 1,.bool false,.bool false,.bool false,.int .u64 1,.int .i64 1,.int .i64 0,.string ⟨#[]⟩,.int .i64 0,.int .i64 0] 90)) _);have HVA:=hd_ (fun W=>zb0 p true hv W hxs);have hX:=z0l wr [.string p,.int .i64 1,.int .i64 1,.bool false,.bool false,.bool false,.int .u64 1,.int .i64 1,.int .i64 0,.string ⟨#[]⟩,.int .i64 0,.int .i64 0] 90;have hKx:=Blk.alloc hKr (.cells #[.string p,.int .i64 1,.int .i64 1,.bool false,.bool false,.bool false,.int .u64 1,.int .i64 1,.int .i64 0,.string ⟨#[]⟩,.int .i64 0,.int .i64 0] 90);have hLx:=z2f.alloc hLr (.cells #[.string p,.int .i64 1,.int .i64 1,.bool false,.bool false,.bool false,.int .u64 1,.int .i64 1,.int .i64 0,.string ⟨#[]⟩,.int .i64 0,.int .i64 0] 90);have hMx:=z2f.alloc hM (.cells #[.string p,.int .i64 1,.int .i64 1,.bool false,.bool false,.bool false,.int .u64 1,.int .i64 1,.int .i64 0,.string ⟨#[]⟩,.int .i64 0,.int .i64 0] 90);have qs:¬(200:Int)<(p.size:Int):=by omega
   have qs':¬ 200<p.size:=by omega
   have q2:decide ((k:Int)<2)=true:=by simp;omega
   have h200':=h200;clear hv hp0 hp1 hpp hKr hLr hEr hM HB0 h200;rcases hcase with hbe | ⟨hbe,hcp⟩
   ·have s1:=ze4 hbe;clear hbe;go_wp2_with fail;refine (HVA.out _).mono ?_;rintro e w1 ⟨rfl,rfl⟩;go_upto_region 9 with fail;clear s1 x0 x1 x2 x3 x4 x5 x6 x7 x8 x9 x10 x11;generalize wr.alloc (.cells #[.string p,.int .i64 1,.int .i64 1,.bool false,.bool false,.bool false,.int .u64 1,.int .i64 1,.int .i64 0,.string ⟨#[]⟩,.int .i64 0,.int .i64 0] 90)=W1 at hgx hX hKx hLx hMx ⊢;generalize wr.heap.size=g5 at hX ⊢;obtain⟨c0,c1,c2,c3,c4,c5,c6,c7,c8,c9,c10,c11⟩:=z7z hX;have HON:=hd_ (knOne p g bl be bn (some ad) ce _ hKx hLx);go_wp2_with fail;refine HON.out.mono ?_;rintro e w2 ⟨rfl,hb2⟩;have hX2:=hX.below hb2 hX.lt;have hg2:=hgx.trans (zay hb2 _);have hK2:=Blk.below hKx hb2 (Blk.lt hKx);have hM2:=z2f.below hMx hb2;obtain⟨w3,hup,hM3,hg3,hs3⟩:=z2f.update (w:=w2.drew) hM2 z7q Tryz.underlying180 p (knE p);have hup':(Instr.mapUpdate 180 (.map (some be)) (.string p) (.agg #[.string p,.int .i64 1,.int .i64 1,.bool false,.bool false,.bool false,.int .u64 1,.int .i64 1,.int .i64 0,.string ⟨#[]⟩,.int .i64 0,.int .i64 0])).run Tryz.prog w2.drew=.ok () w3:=hup;have hX3:=Blk.grown (w:=w2.drew) hX2 hg3 (by intro e;injection e with e;subst e;obtain⟨_,_,ho⟩:=z2f.obj hM2;unfold Blk at hX2;rw[ho] at hX2;cases hX2)
    have hgw3:w.grownBy w3 (some be):=(hg2.trans (zay (Below.refl _ _).drew _)).trans hg3;obtain⟨-,-,-,-,-,-,k8,-⟩:=z4a hK2;clear c0 c1 c2 c3 c4 c5 c6 c7 c8 c9 c10 c11;obtain⟨c0,c1,c2,c3,c4,c5,c6,c7,c8,c9,c10,c11⟩:=z7z hX2;clear hup;go_wp2_with fail;go_still_tail 7,(by kernel_rfl)
    change wpList _ _ _ _ _ w2.drew;clear c0 c1 c2 c3 c4 c5 c6 c7 c8 c9 c10 c11;obtain⟨c0,c1,c2,c3,c4,c5,c6,c7,c8,c9,c10,c11⟩:=z7z hX3;go_wp2_with fail;go_roundw
    case rel=>exact⟨k+1,p,_,by go_num,by omega,rfl,by omega,HST,hgw3,hM3⟩
    case measure=>simp [intOf];omega
   ·have s1:=ze5 hbe;have s2:=ze6 hbe;clear hbe;have HCP:=hd_ (z3m b0 p (wr.alloc (.cells #[.string p,.int .i64 1,.int .i64 1,.bool false,.bool false,.bool false,.int .u64 1,.int .i64 1,.int .i64 0,.string ⟨#[]⟩,.int .i64 0,.int .i64 0] 90)) (by omega) hxs)
    have qc:¬ 0≤z2u b0 p:=by omega
    go_wp2_with fail;refine (HVA.out _).mono ?_;rintro e w1 ⟨rfl,rfl⟩;go_wp2_with fail;refine HCP.out.mono ?_;rintro e w1 ⟨rfl,hq1⟩;have hb1:=hq1.below (World.heap (wr.alloc (.cells #[.string p,.int .i64 1,.int .i64 1,.bool false,.bool false,.bool false,.int .u64 1,.int .i64 1,.int .i64 0,.string ⟨#[]⟩,.int .i64 0,.int .i64 0] 90))).size;have hX:=hX.below hb1 hX.lt;have hKx:=Blk.below hKx hb1 (Blk.lt hKx);have hLx:=z2f.below hLx hb1;have hMx:=z2f.below hMx hb1;have hgx:=hgx.trans (zay hb1 _);clear hq1 hb1;go_upto_region 9 with fail;clear s1 s2 qc hcp x0 x1 x2 x3 x4 x5 x6 x7 x8 x9 x10 x11;have W1:=w1;generalize wr.heap.size=g5 at hX ⊢;obtain⟨c0,c1,c2,c3,c4,c5,c6,c7,c8,c9,c10,c11⟩:=z7z hX;have HON:=hd_ (knOne p g bl be bn (some ad) ce _ hKx hLx);go_wp2_with fail;refine HON.out.mono ?_;rintro e w2 ⟨rfl,hb2⟩;have hX2:=hX.below hb2 hX.lt;have hg2:=hgx.trans (zay hb2 _);have hK2:=Blk.below hKx hb2 (Blk.lt hKx);have hM2:=z2f.below hMx hb2;obtain⟨w3,hup,hM3,hg3,hs3⟩:=z2f.update (w:=w2.drew) hM2 z7q Tryz.underlying180 p (knE p);have hup':(Instr.mapUpdate 180 (.map (some be)) (.string p) (.agg #[.string p,.int .i64 1,.int .i64 1,.bool false,.bool false,.bool false,.int .u64 1,.int .i64 1,.int .i64 0,.string ⟨#[]⟩,.int .i64 0,.int .i64 0])).run Tryz.prog w2.drew=.ok () w3:=hup;have hX3:=Blk.grown (w:=w2.drew) hX2 hg3 (by intro e;injection e with e;subst e;obtain⟨_,_,ho⟩:=z2f.obj hM2;unfold Blk at hX2;rw[ho] at hX2;cases hX2)
    have hgw3:w.grownBy w3 (some be):=(hg2.trans (zay (Below.refl _ _).drew _)).trans hg3;obtain⟨-,-,-,-,-,-,k8,-⟩:=z4a hK2;clear c0 c1 c2 c3 c4 c5 c6 c7 c8 c9 c10 c11;obtain⟨c0,c1,c2,c3,c4,c5,c6,c7,c8,c9,c10,c11⟩:=z7z hX2;clear hup;go_wp2_with fail;go_still_tail 7,(by kernel_rfl)
    change wpList _ _ _ _ _ w2.drew;clear c0 c1 c2 c3 c4 c5 c6 c7 c8 c9 c10 c11;obtain⟨c0,c1,c2,c3,c4,c5,c6,c7,c8,c9,c10,c11⟩:=z7z hX3;go_wp2_with fail;go_roundw
    case rel=>exact⟨k+1,p,_,by go_num,by omega,rfl,by omega,HST,hgw3,hM3⟩
    case measure=>simp [intOf];omega
  ·have q2:decide ((k:Int)<2)=false:=by simp;omega
   go_wp2_with fail;go_ret;exact⟨rfl,hg⟩
def RrFst (W wr:World)(k:Nat)(v:Value)(q:Pat):Prop:=Below W.heap.size W wr∧(k=0→v=.slice none 0 0)∧(k=1→∃(g cap c:Nat) (C:Option Addr),v=.slice (some ⟨g,0,none⟩) 1 cap∧1≤cap∧wr.cell? ⟨g,0,none⟩=some (.slice C q.parts.length c)∧wr.cell? ⟨g,1,none⟩=some (.bool q.rest)∧za9 wr (.slice C q.parts.length c) q)
theorem zo2 (l r h m:Pat)(A B C:Option Addr)(a b c:Nat)(ad:Addr)(hc:Nat)(w:World)(hl:za9 w (.slice A l.parts.length a) l)(hr:za9 w (.slice C r.parts.length c) r)(hh:za9 w (.slice B h.parts.length b) h)(hn:zcw l r h m)(hsym:znr l h)(hs2:znr r (zcv l r m))(hr2:(zcv l r m).rest=true)(hc1:1≤hc)(h0:w.cell? ad=some (.slice B h.parts.length b))(h1:w.cell? ⟨ad.block,ad.off+1,none⟩=some (.bool h.rest)):
  Calls Tryz.prog 138 #[.agg #[.slice A l.parts.length a,.bool l.rest,.slice C r.parts.length c,.bool r.rest,.slice (some ad) 1 hc]] w (zo0 w (.slice C r.parts.length c) r.rest):=by
 obtain⟨W1,hW1⟩:∃ W,W=(w.alloc (.cells #[.slice A l.parts.length a,.bool l.rest,.slice C r.parts.length c,.bool r.rest,.slice (some ad) 1 hc] 100)).alloc (.cells #[.slice none 0 0,.bool false,.slice none 0 0] 115):=⟨_,rfl⟩;have hA:Below w.heap.size w W1:=by rw[hW1];exact ((Below.refl _ _).alloc (Nat.le_refl _) _).alloc (by simp) _
 have hX1:Blk W1 w.heap.size 100 [.slice A l.parts.length a,.bool l.rest,.slice C r.parts.length c,.bool r.rest,.slice (some ad) 1 hc]:=by rw[hW1];exact (z0l w _ _).alloc _
 have h2:Blk W1 (w.heap.size+1) 115 [.slice none 0 0,.bool false,.slice none 0 0]:=by
  rw[hW1];have:=z0l (w.alloc (.cells #[.slice A l.parts.length a,.bool l.rest,.slice C r.parts.length c,.bool r.rest,.slice (some ad) 1 hc] 100)) [.slice none 0 0,.bool false,.slice none 0 0] 115;simp only[World.size_alloc] at this
  exact this
 have HW1:=hd_ hW1;have HA:=hd_ hA;have H1:=hd_ hX1;have H2:=hd_ h2;have HL:=hd_ (fun X (hX:Below w.heap.size w X)=>hl.below hX);have HR:=hd_ (fun X (hX:Below w.heap.size w X)=>hr.below hX);have HH:=hd_ (fun X (hX:Below w.heap.size w X)=>hh.below hX);have HN:=hd_ hn;have HSY:=hd_ hsym;have HS2:=hd_ hs2;have HR2:=hd_ hr2;have HC:Hid (∀ X,Below w.heap.size w X→X.cell? ad=some (.slice B h.parts.length b)∧X.cell? ⟨ad.block,ad.off+1,none⟩=some (.bool h.rest)):=hd_ fun X hX=>⟨z04 h0 hX (z03 h0),z04 h1 hX (z03 h1)⟩;clear hW1 hA hX1 h2 hl hr hh hn hsym hs2 hr2 h0 h1;go_enter Tryz.func138,Tryz.ntmps138;go_upto_region 1 with fail;rw[← HW1.out];have y4:W1.cell? ⟨w.heap.size,4,none⟩=some (.slice (some ad) 1 hc):=H1.out.cell 4;clear HW1;go_wp2_with fail;clear y4;go_loopw [4,13] (fun v i wr=>∃ k:Nat,i=.int .i64 k∧k≤1∧Hid (RrFst W1 wr k v (zcv l r m))) (fun _ i _=>1 - (intOf i).toNat)
 case atStart=>exact⟨0,rfl,Nat.zero_le _,hd_ ⟨Below.refl _ _,fun _=>rfl,fun e=>by omega⟩⟩
 case round =>
  obtain⟨k,rfl,hk,HI⟩:=hrel;by_cases hlt:k<1
  ·have hk0:k=0:=by omega
   subst hk0;obtain⟨hlow,hv,-⟩:=HI.out;have hv:=hv rfl;subst hv;obtain⟨s0,s1⟩:=HC.out wr (z0r HA.out hlow);have hX:Below wr.heap.size wr (wr.alloc (.cells #[.slice B h.parts.length b,.bool h.rest] 97)):=(Below.refl _ _).alloc (Nat.le_refl _) _;have HX5:Hid (zbo _ _ _ _):=hd_ (z0l wr [.slice B h.parts.length b,.bool h.rest] 97);have HL5:=hd_ (z0r hlow hX);clear hX hlow HI;go_upto_region 5 with fail;clear s0 s1;generalize wr.alloc (.cells #[.slice B h.parts.length b,.bool h.rest] 97)=W5 at HX5 HL5 ⊢;generalize wr.heap.size=g6 at HX5 ⊢;have HWA:=hd_ (z0r HA.out HL5.out);refine rrR5 _ (by kernel_rfl) _ l r h m A B C (some ad) a b c 1 hc w.heap.size g6 W5 (H1.out.below HL5.out H1.out.lt) HX5.out (HL.out W5 HWA.out) (HH.out W5 HWA.out) (HR.out W5 HWA.out) HN.out HSY.out _ _ _ _ _ _ _ _ _ _ _ _ _ _ _ _ _ _ _ _ _ _ _ _ _ _ _ _ _ _ _ _ _ _ _ _ _ ?_
   intro en eo er et eu ez eA eB g7 A' C' a' c' w' hb' hc3 hc4 hg7 hin;have HB7:=hd_ (z0r HL5.out hb');have HIN:=hd_ hin;have hc4':w'.cell? ⟨g7,4,none⟩=some (.bool (zcv l r m).rest):=by rw[hc4,HR2.out]
   clear hb' hg7 hin hc4;have hrow:=z0i w' [.slice C' (zcv l r m).parts.length c',.bool (zcv l r m).rest] 97 2 1 rfl (by unfold maxLen;omega) w'.heap.size rfl
   have HON:=hd_ (World.ownsRow_nil (w'.alloc (.cells #[.slice C' (zcv l r m).parts.length c',.bool (zcv l r m).rest] 97)) w'.heap.size 97 2);have HB8:=hd_ (z0r HB7.out ((Below.refl w'.heap.size w').alloc (Nat.le_refl _) (.cells #[.slice C' (zcv l r m).parts.length c',.bool (zcv l r m).rest] 97)));have HIN8:=hd_ (HIN.out.below ((Below.refl w'.heap.size w').alloc (Nat.le_refl _) (.cells #[.slice C' (zcv l r m).parts.length c',.bool (zcv l r m).rest] 97)));go_wp2_with (at_builtin;refine z0j rfl rfl zdd HON.out rfl hrow rfl (by simp [Value.oneCell']) (by omega) (by unfold maxLen;omega) (by simp) ?_;intro A9 c9 w8 hown hgr hob)
   have hb8:=zm9 hgr rfl;have HN9:Hid (RrFst W1 w8 1 (.slice A9 (0+1) c9) (zcv l r m)):=hd_ (by
    obtain⟨g,rfl,hcc,q0,q1⟩:=zny hown;exact⟨z0r HB8.out hb8,fun e=>by omega,fun _=>⟨g,c9,c',C',rfl,hcc,q0,q1,HIN8.out.below hb8⟩⟩)
   clear hown hgr hob hb8 hrow hc3 hc4';go_roundw
   case rel=>exact⟨1,by go_num,Nat.le_refl _,HN9⟩
   case measure=>simp [intOf]
  ·have hk1:k=1:=by omega
   subst hk1;obtain⟨hlow,-,hx⟩:=HI.out;obtain⟨g,cap,c7,C7,rfl,hcap,q0,q1,hin⟩:=hx rfl;have HB:=hd_ (z0r HA.out hlow);have hX3:=H1.out.below hlow H1.out.lt;obtain⟨y2,y3⟩:=(⟨hX3.cell 2,hX3.cell 3⟩:wr.cell? ⟨w.heap.size,2,none⟩=some (.slice C r.parts.length c)∧wr.cell? ⟨w.heap.size,3,none⟩=some (.bool r.rest));have HS:=hd_ (znz r (zcv l r m) C C7 c c7 g cap wr (HR.out wr HB.out) hin HS2.out hcap q0 q1);have HE2:=hd_ (H2.out.below hlow H2.out.lt);clear hlow hx hX3 q0 q1 hin HI;go_wp2_with fail;refine HS.out.mono ?_;rintro e w2 ⟨hb,H9,n9,c9,rfl⟩;dsimp only;have HB2:=hd_ (z0r HB.out hb);have HX2:=hd_ (HE2.out.below hb HE2.out.lt);obtain⟨u0,u1,u2⟩:=(⟨HX2.out.cell 0,HX2.out.cell 1,HX2.out.cell 2⟩:w2.cell? ⟨w.heap.size+1,0,none⟩=some (.slice none 0 0)∧w2.cell? ⟨w.heap.size+1,1,none⟩=some (.bool false)∧w2.cell? ⟨w.heap.size+1,2,none⟩=some (.slice none 0 0));obtain⟨f0,f1,f2⟩:=(⟨HX2.out.frozen 0,HX2.out.frozen 1,HX2.out.frozen 2⟩:w2.frozen? ⟨w.heap.size+1,0,none⟩=false∧w2.frozen? ⟨w.heap.size+1,1,none⟩=false∧w2.frozen? ⟨w.heap.size+1,2,none⟩=false);clear hb y2 y3 HS;go_wp2_with fail;have hE:=((HX2.out.set_ 0 (.slice C r.parts.length c)).set_ 1 (.bool r.rest)).set_ 2 (.slice H9 n9 c9);have hb:=((HB2.out.setCell (p:=⟨w.heap.size+1,0,none⟩) (by simp) (.slice C r.parts.length c)).setCell (p:=⟨w.heap.size+1,1,none⟩) (by simp) (.bool r.rest)).setCell (p:=⟨w.heap.size+1,2,none⟩) (by simp) (.slice H9 n9 c9)
   generalize ((w2.setCell ⟨w.heap.size+1,0,none⟩ (.slice C r.parts.length c)).setCell ⟨w.heap.size+1,1,none⟩ (.bool r.rest)).setCell ⟨w.heap.size+1,2,none⟩ (.slice H9 n9 c9)=W8 at hE hb ⊢;have e0:=hE.cell 0;have e1:=hE.cell 1;have e2:=hE.cell 2;exact bodyPost_ret (v:=.tuple #[.agg #[.slice C r.parts.length c,.bool r.rest,.slice H9 n9 c9],.bool true]) (by simp [results,Tryz.results138,go_sem,e0,e1,e2]) rfl ⟨hb,H9,n9,c9,rfl⟩
theorem chR14 (ops:Array Oper)(hops:Tryz.f59.body.bind (zci 14)=some ops)(Q:Exit→Act→World→Prop)(V:World)(gw gp k n cr:Nat)(Ar:Option Addr)(dr:Value)(p:ByteArray)(v:Rev)(bo:Bool)
  (hC:∀ w',Below V.heap.size V w'→w'.cell? ⟨gw,0,none⟩=some (.slice Ar n cr)∧w'.cell? ⟨gw,1,none⟩=some dr∧w'.cell? ⟨gp,k,none⟩=some (.string p)) (hk:(k:Int)<6)
  (hL:∀ X,Below V.heap.size V X→Calls Tryz.prog 90 #[.agg #[.slice Ar n cr,dr],.string p] X fun e w'=>e=.returned (.tuple #[.agg #[.string v.path,.int .i64 v.num,.int .i64 v.chg,.int .i64 v.act,.int .i64 v.ty.base,.bool v.ty.k,.bool v.ty.l,.bool v.ty.x,.int .u64 v.sum,.int .i64 v.size,.string v.frm,.int .i64 v.fnum],.bool bo])∧Below X.heap.size X w')
  (u1 u2 u3 u4 u5 u6 u7 u9 gn gt gu gx gy gA gC gD gE gF gG gH gI gJ gK gL gM gN gO gP gQ gR gT gV gW gX gY gZ i6 i7 i8 ia ib ic ie ig ii ij ik il im io ip iq ir iu iv iw ix iy iz iA iB iC iD iE iF iG iH iI iJ iK iL iM iN iO iP iQ iR iS iT iU iV iW iX iY iZ j0 j1 j2 j5 j6 j7 j8 j9 jb jd je jf bw bz bA bB bD bE bF bG bH bI bJ bK bL bM bN bO bP bQ bT bU bV bW bX bY bZ ca cj ck cn cx cy cz cA cB cD cE cG cH cI cJ cM cN cO cP cQ cT cU cW cZ da db dc dd de df dg dh di dj dm du dw dz dA dB dC dD dE dF dG dH dI dJ dK dL dM dN dO dP dQ dR dS dT dU dV dW dX dY dZ ec:Value)
  (hQ:∀(fS fT fU fV fW fX fY fZ ga gb gf gg tb:Value) (g:Nat) (w':World),Blk w' g 66 [.string v.path,.int .i64 v.num,.int .i64 v.chg,.int .i64 v.act,.int .i64 v.ty.base,.bool v.ty.k,.bool v.ty.l,.bool v.ty.x,.int .u64 v.sum,.int .i64 v.size,.string v.frm,.int .i64 v.fnum]→V.heap.size≤g→Below V.heap.size V w'→Q .normal ⟨#[.pointer (some ⟨gw,0,none⟩),u1,u2,u3,u4,u5,u6,u7,.slice (some ⟨gp,0,none⟩) 6 6,u9,gn,gt,gu,gx,gy,.int .i64 k,gA,gC,.pointer (some ⟨g,0,none⟩),tb,gF,gG,gH,gI,gJ,gK,gL,gM,gN,gO,gP,gQ,gR,gT,gV,gW,gX,gY,gZ,i6,i7,i8,ia,ib,ic,ie,ig,ii,ij,ik,il,im,io,ip,iq,ir,iu,iv,iw,ix,iy,iz,iA,iB,iC,iD,iE,iF,iG,iH,iI,iJ,iK,iL,iM,iN,iO,iP,iQ,iR,iS,iT,iU,iV,fS,fT,fU,fV,fW,fX,fY,fZ,ga,gb,gf,gg,jb,jd,je,jf,bw,bz,bA,bB,bD,bE,bF,bG,bH,bI,bJ,bK,bL,bM,bN,bO,bP,bQ,bT,bU,bV,bW,bX,bY,bZ,ca,cj,ck,cn,cx,cy,cz,cA,cB,cD,cE,cG,cH,cI,cJ,cM,cN,cO,cP,cQ,cT,cU,cW,cZ,da,db,dc,dd,de,df,dg,dh,di,dj,dm,du,dw,dz,dA,dB,dC,dD,dE,dF,dG,dH,dI,dJ,dK,dL,dM,dN,dO,dP,dQ,dR,dS,dT,dU,dV,dW,dX,dY,dZ,ec],[]⟩ w'):
  (Code.region 14 ops true).wp Tryz.prog Q ⟨#[.pointer (some ⟨gw,0,none⟩),u1,u2,u3,u4,u5,u6,u7,.slice (some ⟨gp,0,none⟩) 6 6,u9,gn,gt,gu,gx,gy,.int .i64 k,gA,gC,gD,gE,gF,gG,gH,gI,gJ,gK,gL,gM,gN,gO,gP,gQ,gR,gT,gV,gW,gX,gY,gZ,i6,i7,i8,ia,ib,ic,ie,ig,ii,ij,ik,il,im,io,ip,iq,ir,iu,iv,iw,ix,iy,iz,iA,iB,iC,iD,iE,iF,iG,iH,iI,iJ,iK,iL,iM,iN,iO,iP,iQ,iR,iS,iT,iU,iV,iW,iX,iY,iZ,j0,j1,j2,j5,j6,j7,j8,j9,jb,jd,je,jf,bw,bz,bA,bB,bD,bE,bF,bG,bH,bI,bJ,bK,bL,bM,bN,bO,bP,bQ,bT,bU,bV,bW,bX,bY,bZ,ca,cj,ck,cn,cx,cy,cz,cA,cB,cD,cE,cG,cH,cI,cJ,cM,cN,cO,cP,cQ,cT,cU,cW,cZ,da,db,dc,dd,de,df,dg,dh,di,dj,dm,du,dw,dz,dA,dB,dC,dD,dE,dF,dG,dH,dI,dJ,dK,dL,dM,dN,dO,dP,dQ,dR,dS,dT,dU,dV,dW,dX,dY,dZ,ec],[]⟩ V:=by
 simp only[Tryz.f59,Option.bind_some,zci] at hops
 simp at hops
 subst hops;have HQ:=hd_ hQ;have HLZ:=hd_ hL;have hVA:Below V.heap.size V (V.alloc (.cells #[.string ⟨#[]⟩,.int .i64 0,.int .i64 0,.int .i64 0,.int .i64 0,.bool false,.bool false,.bool false,.int .u64 0,.int .i64 0,.string ⟨#[]⟩,.int .i64 0] 66)).drew:=((Below.refl _ _).alloc (Nat.le_refl _) _).drew;obtain⟨x0,x1,x2⟩:=hC V (Below.refl _ _);obtain⟨y0,y1,y2⟩:=hC _ hVA;clear hVA hC hQ hL;refine wp_region_noPanic ?_;go_region_law (first
  | (go_simp;go_at_call 90;refine (HLZ.out _ (by repeat (first | exact Below.refl _ _ | refine Below.drew ?_ | refine zcf ?_ _))).mono ?_;rintro e w8 ⟨rfl,hX8⟩;have hS8:Below V.heap.size V w8:=(by repeat (first | exact Below.refl _ _ | refine Below.drew ?_ | refine zcf ?_ _):Below V.heap.size V _).trans (hX8.mono (by simp));(try (have hblk:=Blk.below (Blk.drew' (z0l V [.string ⟨#[]⟩,.int .i64 0,.int .i64 0,.int .i64 0,.int .i64 0,.bool false,.bool false,.bool false,.int .u64 0,.int .i64 0,.string ⟨#[]⟩,.int .i64 0] 66)) hX8 (by simp);obtain⟨p0,p1,p2,p3,p4,p5,p6,p7,p8,p9,p10,p11⟩:=z7z hblk;obtain⟨r0,r1,r2,r3,r4,r5,r6,r7,r8,r9,r10,r11⟩:=zdz hblk))))
 all_goals refine NoPanic.normal ?_
 all_goals first
  | exact HQ.out _ _ _ _ _ _ _ _ _ _ _ _ _ _ _ (ze0 hblk v) (Nat.le_refl _) (ze1 hS8 (Nat.le_refl _) v)
  | exact HQ.out _ _ _ _ _ _ _ _ _ _ _ _ _ _ _ (z0l w8 [.string v.path,.int .i64 v.num,.int .i64 v.chg,.int .i64 v.act,.int .i64 v.ty.base,.bool v.ty.k,.bool v.ty.l,.bool v.ty.x,.int .u64 v.sum,.int .i64 v.size,.string v.frm,.int .i64 v.fnum] 66) hS8.size (hS8.alloc hS8.size _)
theorem chR22 (ops:Array Oper)(hops:Tryz.f59.body.bind (zci 22)=some ops)(Q:Exit→Act→World→Prop)(V:World)(gw gp k n cr:Nat)(Ar:Option Addr)(dr:Value)(p:ByteArray)(v:Rev)(bo:Bool)
  (hC:∀ w',Below V.heap.size V w'→w'.cell? ⟨gw,0,none⟩=some (.slice Ar n cr)∧w'.cell? ⟨gw,1,none⟩=some dr∧w'.cell? ⟨gp,k,none⟩=some (.string p)) (hk:(k:Int)<6)
  (hL:∀ X,Below V.heap.size V X→Calls Tryz.prog 90 #[.agg #[.slice Ar n cr,dr],.string p] X fun e w'=>e=.returned (.tuple #[.agg #[.string v.path,.int .i64 v.num,.int .i64 v.chg,.int .i64 v.act,.int .i64 v.ty.base,.bool v.ty.k,.bool v.ty.l,.bool v.ty.x,.int .u64 v.sum,.int .i64 v.size,.string v.frm,.int .i64 v.fnum],.bool bo])∧Below X.heap.size X w')
  (u1 u2 u3 u4 u5 u6 u7 gn gt gu gx gy gz gA gC gD gE gF gG gH gI gJ gK gL gM gN gO gP gQ gR gT gV gW gX gY gZ i6 i7 i8 ia ib ic ie ig ii ij ik il im io ip iq ir iu iv iw ix iy iz iA iB iC iD iE iF iG iH iI iJ iK iL iM iN iO iP iQ iR iS iT iU iV iW iX iY iZ j0 j1 j2 j5 j6 j7 j8 j9 jb jd je jf bw bz bA bB bD bE bF bG bH bI bJ bK bL bM bN bO bP bQ bT bU bV bW bX bY bZ ca cj ck cn cx cy cz cA cB cD cE cG cH cI cJ cM cN cO cP cQ cT cU cW cZ da db dc dd de df dg dh di dj dm du dw dz dA dB dC dD dE dF dG dH dI dJ dK dL dM dN dO dP dQ dR dS dT dU dV dW dX dY dZ ec:Value)
  (hQ:∀(aF aG aH aI aJ aK aL aM aN aO aP aQ tb:Value) (g:Nat) (w':World),Blk w' g 66 [.string v.path,.int .i64 v.num,.int .i64 v.chg,.int .i64 v.act,.int .i64 v.ty.base,.bool v.ty.k,.bool v.ty.l,.bool v.ty.x,.int .u64 v.sum,.int .i64 v.size,.string v.frm,.int .i64 v.fnum]→V.heap.size≤g→Below V.heap.size V w'→Q .normal ⟨#[.pointer (some ⟨gw,0,none⟩),u1,u2,u3,u4,u5,u6,u7,.slice (some ⟨gp,0,none⟩) 6 6,.int .i64 k,gn,gt,gu,gx,gy,gz,gA,gC,gD,gE,gF,.pointer (some ⟨g,0,none⟩),tb,gI,gJ,gK,gL,gM,gN,gO,gP,gQ,gR,gT,gV,gW,gX,gY,gZ,i6,i7,i8,ia,ib,ic,ie,ig,ii,ij,ik,il,im,io,ip,iq,ir,iu,iv,iw,ix,iy,iz,iA,iB,iC,iD,iE,iF,iG,iH,iI,iJ,iK,iL,iM,iN,iO,iP,iQ,iR,iS,iT,iU,iV,iW,iX,iY,iZ,j0,j1,j2,j5,j6,j7,j8,j9,jb,jd,je,jf,bw,bz,bA,bB,bD,bE,bF,bG,bH,bI,bJ,bK,bL,bM,bN,bO,bP,bQ,bT,bU,bV,bW,bX,bY,bZ,ca,cj,ck,aF,aG,aH,aI,aJ,aK,aL,aM,aN,aO,aP,aQ,cM,cN,cO,cP,cQ,cT,cU,cW,cZ,da,db,dc,dd,de,df,dg,dh,di,dj,dm,du,dw,dz,dA,dB,dC,dD,dE,dF,dG,dH,dI,dJ,dK,dL,dM,dN,dO,dP,dQ,dR,dS,dT,dU,dV,dW,dX,dY,dZ,ec],[]⟩ w'):
  (Code.region 22 ops true).wp Tryz.prog Q ⟨#[.pointer (some ⟨gw,0,none⟩),u1,u2,u3,u4,u5,u6,u7,.slice (some ⟨gp,0,none⟩) 6 6,.int .i64 k,gn,gt,gu,gx,gy,gz,gA,gC,gD,gE,gF,gG,gH,gI,gJ,gK,gL,gM,gN,gO,gP,gQ,gR,gT,gV,gW,gX,gY,gZ,i6,i7,i8,ia,ib,ic,ie,ig,ii,ij,ik,il,im,io,ip,iq,ir,iu,iv,iw,ix,iy,iz,iA,iB,iC,iD,iE,iF,iG,iH,iI,iJ,iK,iL,iM,iN,iO,iP,iQ,iR,iS,iT,iU,iV,iW,iX,iY,iZ,j0,j1,j2,j5,j6,j7,j8,j9,jb,jd,je,jf,bw,bz,bA,bB,bD,bE,bF,bG,bH,bI,bJ,bK,bL,bM,bN,bO,bP,bQ,bT,bU,bV,bW,bX,bY,bZ,ca,cj,ck,cn,cx,cy,cz,cA,cB,cD,cE,cG,cH,cI,cJ,cM,cN,cO,cP,cQ,cT,cU,cW,cZ,da,db,dc,dd,de,df,dg,dh,di,dj,dm,du,dw,dz,dA,dB,dC,dD,dE,dF,dG,dH,dI,dJ,dK,dL,dM,dN,dO,dP,dQ,dR,dS,dT,dU,dV,dW,dX,dY,dZ,ec],[]⟩ V:=by
 simp only[Tryz.f59,Option.bind_some,zci] at hops
 simp at hops
 subst hops;have HQ:=hd_ hQ;have HLZ:=hd_ hL;have hVA:Below V.heap.size V (V.alloc (.cells #[.string ⟨#[]⟩,.int .i64 0,.int .i64 0,.int .i64 0,.int .i64 0,.bool false,.bool false,.bool false,.int .u64 0,.int .i64 0,.string ⟨#[]⟩,.int .i64 0] 66)).drew:=((Below.refl _ _).alloc (Nat.le_refl _) _).drew;obtain⟨x0,x1,x2⟩:=hC V (Below.refl _ _);obtain⟨y0,y1,y2⟩:=hC _ hVA;clear hVA hC hQ hL;refine wp_region_noPanic ?_;go_region_law (first
  | (go_simp;go_at_call 90;refine (HLZ.out _ (by repeat (first | exact Below.refl _ _ | refine Below.drew ?_ | refine zcf ?_ _))).mono ?_;rintro e w8 ⟨rfl,hX8⟩;have hS8:Below V.heap.size V w8:=(by repeat (first | exact Below.refl _ _ | refine Below.drew ?_ | refine zcf ?_ _):Below V.heap.size V _).trans (hX8.mono (by simp));(try (have hblk:=Blk.below (Blk.drew' (z0l V [.string ⟨#[]⟩,.int .i64 0,.int .i64 0,.int .i64 0,.int .i64 0,.bool false,.bool false,.bool false,.int .u64 0,.int .i64 0,.string ⟨#[]⟩,.int .i64 0] 66)) hX8 (by simp);obtain⟨p0,p1,p2,p3,p4,p5,p6,p7,p8,p9,p10,p11⟩:=z7z hblk;obtain⟨r0,r1,r2,r3,r4,r5,r6,r7,r8,r9,r10,r11⟩:=zdz hblk))))
 all_goals refine NoPanic.normal ?_
 all_goals first
  | exact HQ.out _ _ _ _ _ _ _ _ _ _ _ _ _ _ _ (ze0 hblk v) (Nat.le_refl _) (ze1 hS8 (Nat.le_refl _) v)
  | exact HQ.out _ _ _ _ _ _ _ _ _ _ _ _ _ _ _ (z0l w8 [.string v.path,.int .i64 v.num,.int .i64 v.chg,.int .i64 v.act,.int .i64 v.ty.base,.bool v.ty.k,.bool v.ty.l,.bool v.ty.x,.int .u64 v.sum,.int .i64 v.size,.string v.frm,.int .i64 v.fnum] 66) hS8.size (hS8.alloc hS8.size _)
end Go.Proofs.YtegeboijhifmcaaGreatDoor
