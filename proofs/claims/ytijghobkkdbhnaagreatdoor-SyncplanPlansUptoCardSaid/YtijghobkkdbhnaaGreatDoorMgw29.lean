/- A part. -/
import Derived.Test.YtijghobkkdbhnaaGreatDoorMgw28
import Derived.Test.YtijghobkkdbhnaaGreatDoorMgw24
set_option linter.unusedVariables false
set_option linter.unusedSimpArgs false
set_option maxHeartbeats 8000000
set_option maxRecDepth 100000
namespace Go.Proofs.YtijghobkkdbhnaaGreatDoor
open Go.Proofs.Tryz
open Go.RowKit
structure EntP where
 l:Pat
 r:Pat
 hs:List Pat
def zdd.pl (x:zdd):EntP:=⟨x.l.1,x.r.1,x.hs.map (·.1)⟩
def zg8 (c:UInt8):ByteArray:=⟨#[c]⟩
def zg9:ByteArray:=⟨#[42]⟩
def zga:Nat→List EntP
 | 0=>[⟨⟨[zg8 100],true⟩,⟨[zg8 99],true⟩,[]⟩]
 | 1=>[⟨⟨[zg8 100],true⟩,⟨[zg8 99],true⟩,[⟨[zg8 100,zg8 120],true⟩]⟩]
 | 2=>[⟨⟨[zg8 100,zg8 120],true⟩,⟨[zg8 99],true⟩,[]⟩,⟨⟨[zg8 101],true⟩,⟨[zg8 119],true⟩,[]⟩]
 | 3=>[⟨⟨[zg8 100,zg8 97],false⟩,⟨[zg8 99,zg8 98],false⟩,[]⟩,⟨⟨[zg8 100,zg8 98],false⟩,⟨[zg8 99,zg8 97],false⟩,[]⟩,⟨⟨[zg8 100,zg8 120],true⟩,⟨[zg8 99,zg8 120],true⟩,[]⟩]
 | 4=>[⟨⟨[zg8 100,zg8 97],false⟩,⟨[zg8 99,zg8 97],false⟩,[]⟩,⟨⟨[zg8 100,zg8 98],false⟩,⟨[zg8 99,zg8 98],false⟩,[]⟩,⟨⟨[zg8 101,zg8 97],false⟩,⟨[zg8 99,zg8 101],false⟩,[]⟩]
 | 5=>[⟨⟨[zg8 101],true⟩,⟨[zg8 99],true⟩,[]⟩,⟨⟨[zg8 100,zg9,zg8 97],false⟩,⟨[zg8 119,zg9,zg8 122],false⟩,[]⟩]
 | 6=>[⟨⟨[zg8 100],true⟩,⟨[zg8 99],true⟩,[]⟩,⟨⟨[zg8 101],true⟩,⟨[zg8 119],true⟩,[]⟩]
 | _=>[]
def regP (b:Pat)(hs:List Pat):Int:=if z7j b≠0 then 50 else if (hs.all fun q=>decide (z7j q=0))=false then 51 else if 64<hs.length then 52 else 0
theorem regE_pl (b:Pat)(hs:List zd6):zd8 b hs=regP b (hs.map (·.1)):=by
 unfold zd8 regP;rw[List.length_map,List.all_map];rfl
def zgb (p:Pat):Bool:=p.rest && decide (z7j p=0) && p.parts.all fun x=>!z7e x
theorem zgc {p:Pat}(h:zgb p=true):zcr p:=by
 unfold zgb at h;simp only[Bool.and_eq_true,List.all_eq_true,Bool.not_eq_true',decide_eq_true_eq] at h
 exact⟨h.1.1,h.1.2,h.2⟩
def wiB (p q:Pat):Bool:=decide (q.parts.length≤p.parts.length) && (List.range q.parts.length).all fun k=>z9x ((p.parts[k]?).getD z2l) ((q.parts[k]?).getD z2l)
theorem wiB_ok {p q:Pat}(h:wiB p q=true):WiOk p q:=by
 unfold wiB at h;simp only[Bool.and_eq_true,List.all_eq_true,decide_eq_true_eq,List.mem_range] at h
 refine⟨h.1,fun k hk=>?_⟩;have:=h.2 k hk;rw[List.getElem?_eq_getElem hk,List.getElem?_eq_getElem (Nat.lt_of_lt_of_le hk h.1)] at this;exact this
def narB (l r h:Pat):Bool:=match zan l h with
 | none=>false
 | some m=>zgb l && zgb r && decide (zad l r=0) && decide (z7j h=0) && m.rest && decide (z7j m=0) && wiB m l && decide (r.parts.length+(m.parts.length - l.parts.length)≤12)
theorem narB_ok {l r h:Pat}(e:narB l r h=true):∃ m,zd1 l r h m:=by
 unfold narB at e;cases hm:zan l h with
 | none=>rw[hm] at e;cases e
 | some m =>
  rw[hm] at e;simp only[Bool.and_eq_true,decide_eq_true_eq] at e
  obtain⟨⟨⟨⟨⟨⟨⟨e1,e2⟩,e3⟩,e4⟩,e5⟩,e6⟩,e7⟩,e8⟩:=e;exact⟨m,zgc e1,zgc e2,e3,e4,hm,e5,e6,wiB_ok e7,e8⟩
def fillB (p:Pat)(caps:List ByteArray):Bool:=
 decide (z7j p=0) && decide (caps.length=za7 p+(if p.rest then 1 else 0)) && (caps.take (za7 p)).all z0v && (!p.rest || (caps.drop (za7 p)).all fun c=>(z1a c.data.toList).all z0u) &&
  (caps.all fun c=>decide (c.size≤1000000)) && decide ((Lib.join ((zby p caps).map (·.data.toList)) [47]).length≤1000000) && decide (0<(zby p caps).length)
theorem zgd {p:Pat}{caps:List ByteArray}(h:fillB p caps=true):zc0 p caps:=by
 unfold fillB at h;simp only[Bool.and_eq_true,Bool.or_eq_true,Bool.not_eq_true',List.all_eq_true,decide_eq_true_eq] at h
 obtain⟨⟨⟨⟨⟨⟨h1,h2⟩,h3⟩,h4⟩,h5⟩,h6⟩,h7⟩:=h;refine⟨h1,h2,h3,fun hr c hc=>?_,h5,h6,h7⟩;rcases h4 with h4 | h4
 ·rw[h4] at hr;cases hr
 ·exact List.all_eq_true.2 (h4 c hc)
def entB (x:EntP):Bool:=decide (zad x.l x.r=0) && decide (regP x.l x.hs=0) && x.hs.all (narB x.l x.r)
def mapB (es:List EntP):Bool:=decide (es.length≤32) && es.all entB && (List.range es.length).all fun i=>(List.range i).all fun j=>match es[i]?,es[j]? with
 | some x,some y=>(zan x.l y.l).isNone && (zan x.r y.r).isNone
 | _,_=>false
theorem mapB_ok {es:List zdd}(h:mapB (es.map zdd.pl)=true):zdo es:=by
 unfold mapB at h;simp only[Bool.and_eq_true,List.all_eq_true,decide_eq_true_eq,List.mem_range,List.length_map,List.mem_map,forall_exists_index,and_imp,forall_apply_eq_imp_iff₂] at h
 obtain⟨⟨h1,h2⟩,h3⟩:=h;refine⟨h1,fun x hx=>?_,fun i j hi hj=>?_⟩
 ·have:=h2 x hx;unfold entB at this;simp only[Bool.and_eq_true,List.all_eq_true,decide_eq_true_eq] at this
  refine⟨this.1.1,by rw[regE_pl];exact this.1.2,fun q hq=>?_⟩
  exact narB_ok (this.2 q.1 (List.mem_map.2 ⟨q,hq,rfl⟩))
 ·have:=h3 i hi j hj;rw[List.getElem?_map,List.getElem?_map,List.getElem?_eq_getElem hi,List.getElem?_eq_getElem (Nat.lt_trans hj hi)] at this;simp only[Option.map_some,Bool.and_eq_true,Option.isNone_iff_eq_none] at this
  exact this
def zge (x:EntP)(p:ByteArray):Option ByteArray:=match zc7 x.l x.r p with
 | none=>none
 | some s=>if x.hs.any (fun q=>(z8j q p).isSome) then none else some s
def fwdP (es:List EntP)(p:ByteArray):Option ByteArray:=es.findSome? (zge · p)
theorem fwdM_pl (es:List zdd)(p:ByteArray):zdy es p=fwdP (es.map zdd.pl) p:=by
 unfold zdy fwdP;induction es with
 | nil=>rfl
 | cons x es ih =>
  rw[List.map_cons,List.findSome?_cons,List.findSome?_cons,ih];have:zdx x p=zge x.pl p:=by
   unfold zdx zge zdu;show (match zc7 x.l.1 x.r.1 p with | none=>none | some s=>_)=(match zc7 x.l.1 x.r.1 p with | none=>none | some s=>if (x.hs.map (·.1)).any _=true then none else some s)
   rw[List.any_map];rfl
  rw[this]
theorem maps_B:∀ k<8,mapB (zga k)=true:=by decide +kernel
theorem zgf:∀ k<8,∀ p∈zfm,fwdP (zga k) p=zfx k p:=by decide +kernel
theorem zgg:∀ k<8,∀ p∈zfm,∀ x∈zga k,((z8j x.l p).map (fillB x.r)).getD true=true:=by decide +kernel
theorem zgh:∀ k<8,∀ p∈zfm,((zfx k p).map fun s=>decide (s.size≤200)).getD true=true:=by decide +kernel
theorem zgi {es:List zdd}{k:Nat}(hk:k<8)(h:es.map zdd.pl=zga k):zfz es∧∀ p∈zfm,zdy es p=zfx k p:=by
 have hf:∀ p∈zfm,zdy es p=zfx k p:=fun p hp=>by rw[fwdM_pl,h];exact zgf k hk p hp
 refine⟨⟨mapB_ok (by rw[h];exact maps_B k hk),fun p hp x hx caps hc=>?_,fun p hp s hs=>?_⟩,hf⟩
 ·have:=zgg k hk p hp x.pl (by rw[← h];exact List.mem_map.2 ⟨x,hx,rfl⟩)
  have e:z8j x.pl.l p=some caps:=hc;rw[e] at this;exact zgd this
 ·rw[hf p hp] at hs;have:=zgh k hk p hp;rw[hs] at this;simpa using this
theorem zgj {D:List Rev}{f g:ByteArray→Option ByteArray}{m:Int}(h:∀ p∈zfm,f p=g p):zfr D f m=zfr D g m:=by
 unfold zfr;refine z6q fun p hp=>?_;unfold zfq;rw[h p hp]
def zgu:ByteArray→Option Rev:=fun _=>none
theorem knOne (p:ByteArray)(g bl be bn:Nat)(Ae:Option Addr)(ce:Nat)(w:World)(hk:Chk w g (.slice none 0 0) (.slice none 0 0) 1 ⟨#[]⟩ ⟨#[]⟩ (.slice Ae 2 ce) (.slice none 0 0) bl be bn)(hL:z7w w bl zgu):
  Calls prog 197 #[.pointer (some ⟨g,0,none⟩),.agg #[.string p,.int .i64 1,.int .i64 1,.bool false,.bool false,.bool false,.int .u64 1,.int .i64 1,.int .i64 0,.string ⟨#[]⟩,.int .i64 0,.int .i64 0]] w fun e w'=>e=.returned (.int .i64 0)∧Below w.heap.size w w':=by
 have hbW:Below w.heap.size w (w.alloc (.cells #[.string p,.int .i64 1,.int .i64 1,.bool false,.bool false,.bool false,.int .u64 1,.int .i64 1,.int .i64 0,.string ⟨#[]⟩,.int .i64 0,.int .i64 0] 100)):=(Below.refl _ _).alloc (Nat.le_refl _) _;have HLV:Hid (Calls prog 232 #[.pointer (some ⟨g,0,none⟩),.string p] (w.alloc (.cells #[.string p,.int .i64 1,.int .i64 1,.bool false,.bool false,.bool false,.int .u64 1,.int .i64 1,.int .i64 0,.string ⟨#[]⟩,.int .i64 0,.int .i64 0] 100)) fun e w'=>e=.returned (.tuple #[.agg #[.string ⟨#[]⟩,.int .i64 0,.int .i64 0,.int .i64 0,.int .i64 0,.bool false,.bool false,.bool false,.int .u64 0,.int .i64 0,.string ⟨#[]⟩,.int .i64 0],.bool false])∧Below (w.alloc (.cells #[.string p,.int .i64 1,.int .i64 1,.bool false,.bool false,.bool false,.int .u64 1,.int .i64 1,.int .i64 0,.string ⟨#[]⟩,.int .i64 0,.int .i64 0] 100)).heap.size (w.alloc (.cells #[.string p,.int .i64 1,.int .i64 1,.bool false,.bool false,.bool false,.int .u64 1,.int .i64 1,.int .i64 0,.string ⟨#[]⟩,.int .i64 0,.int .i64 0] 100)) w'):=hd_ (ze7 zgu p g _ _ _ _ 1 _ _ bl be bn _ (Blk.below hk hbW (Blk.lt hk)) (z2f.below hL hbW));have HX0:=hd_ (z0l w [.string p,.int .i64 1,.int .i64 1,.bool false,.bool false,.bool false,.int .u64 1,.int .i64 1,.int .i64 0,.string ⟨#[]⟩,.int .i64 0,.int .i64 0] 100);have HFT:=hd_ (fun W=>z35 1 false false false W);have HIL:=hd_ (fun W=>z3f 1 W);have HB:=hd_ hbW;clear hk hL hbW;go_enter func197,ntmps197;go_wp2_with fail;refine HLV.out.mono ?_;rintro e w1 ⟨rfl,hb1⟩;dsimp only;have hX1:=(HX0.out.below hb1 HX0.out.lt).alloc (.cells #[.string ⟨#[]⟩,.int .i64 0,.int .i64 0,.int .i64 0,.int .i64 0,.bool false,.bool false,.bool false,.int .u64 0,.int .i64 0,.string ⟨#[]⟩,.int .i64 0] 90);obtain⟨c0,c1,c2,c3,c4,c5,c6,c7,c8,c9,c10,c11⟩:=z84 hX1;have hR:=z0l w1 [.string ⟨#[]⟩,.int .i64 0,.int .i64 0,.int .i64 0,.int .i64 0,.bool false,.bool false,.bool false,.int .u64 0,.int .i64 0,.string ⟨#[]⟩,.int .i64 0] 90;obtain⟨d0,d1,d2,d3,d4,d5,d6,d7,d8,d9,d10,d11⟩:=z84 hR
 have HBW:=hd_ (zck (z0r HB.out hb1) (.cells #[.string ⟨#[]⟩,.int .i64 0,.int .i64 0,.int .i64 0,.int .i64 0,.bool false,.bool false,.bool false,.int .u64 0,.int .i64 0,.string ⟨#[]⟩,.int .i64 0] 90));have HX1:=hd_ hX1;have HR1:=hd_ hR;clear hb1 hX1 hR HLV HB HX0;go_upto_region 2 with fail;generalize w1.alloc (.cells #[.string ⟨#[]⟩,.int .i64 0,.int .i64 0,.int .i64 0,.int .i64 0,.bool false,.bool false,.bool false,.int .u64 0,.int .i64 0,.string ⟨#[]⟩,.int .i64 0] 90)=W1 at c0 c1 c2 c3 c4 c5 c6 c7 c8 c9 c10 c11 d0 d1 d2 d3 d4 d5 d6 d7 d8 d9 d10 d11 HBW HX1 HR1 ⊢;generalize w1.heap.size=g2 at d0 d1 d2 d3 d4 d5 d6 d7 d8 d9 d10 d11 HR1 ⊢;go_wp2_with fail;refine (HFT.out _).mono ?_;rintro e w5 ⟨rfl,hb5⟩;have HB5:=hd_ (z0r HBW.out hb5);clear c0 c1 c2 c3 c4 c5 c6 c7 c8 c9 c10 c11 d0 d1 d2 d3 d4 d5 d6 d7 d8 d9 d10 d11;obtain⟨c0,c1,c2,c3,c4,c5,c6,c7,c8,c9,c10,c11⟩:=z84 (HX1.out.below hb5 HX1.out.lt);clear hb5;have q0:z2k 90 (z2j 1 false false)=0:=rfl;rw[q0];go_wp2_with fail;refine (HIL.out _).mono ?_;rintro e w6 ⟨rfl,rfl⟩;have q1:z2v 1=true:=rfl;rw[q1];go_wp2_with fail;go_ret;exact⟨rfl,HB5.out⟩
theorem knSize (g bl be bn:Nat)(Ae:Option Addr)(ce:Nat)(w:World)(hk:Chk w g (.slice none 0 0) (.slice none 0 0) 1 ⟨#[]⟩ ⟨#[]⟩ (.slice Ae 2 ce) (.slice none 0 0) bl be bn):Calls prog 140 #[.pointer (some ⟨g,0,none⟩)] w fun e w'=>e=.returned (.int .i64 0)∧Below w.heap.size w w':=by
 obtain⟨k0,k1,k2,k5,k6,-,-,-⟩:=z4a hk;have HK:=hd_ hk;clear hk;go_enter func140,ntmps140;go_upto_region 1 with fail;go_quiet (fail)
 go_wp2_with fail;refine wp_loop_rounds 1 ?_;rw[rounds_succ];go_wp2_with fail;go_ret;exact⟨rfl,below_drewN (Below.refl _ _) _⟩
theorem knRoom (g bl be bn:Nat)(Ae:Option Addr)(ce:Nat)(w:World)(hk:Chk w g (.slice none 0 0) (.slice none 0 0) 1 ⟨#[]⟩ ⟨#[]⟩ (.slice Ae 2 ce) (.slice none 0 0) bl be bn):Calls prog 144 #[.pointer (some ⟨g,0,none⟩)] w fun e w'=>e=.returned (.int .i64 0)∧Below w.heap.size w w':=by
 obtain⟨k0,k1,k2,k5,k6,-,-,-⟩:=z4a hk;clear hk;go_enter func144,ntmps144;go_upto_region 1 with fail;go_quiet (fail)
 go_wp2_with fail;go_ret;exact⟨rfl,below_drewN (Below.refl _ _) _⟩
theorem knRecs (g bl be bn:Nat)(Ae:Option Addr)(ce:Nat)(w:World)(hk:Chk w g (.slice none 0 0) (.slice none 0 0) 1 ⟨#[]⟩ ⟨#[]⟩ (.slice Ae 2 ce) (.slice none 0 0) bl be bn):Calls prog 143 #[.pointer (some ⟨g,0,none⟩)] w fun e w'=>e=.returned (.int .i64 0)∧Below w.heap.size w w':=by
 have hA:Below w.heap.size w (w.alloc (.map #[] 0)):=(Below.refl _ _).alloc (Nat.le_refl _) _;obtain⟨k0,k1,k2,k5,k6,-,-,-⟩:=z4a (Blk.below hk hA (Blk.lt hk));clear hk;have hmm:=@run_makeMap prog;go_enter func143,ntmps143;go_wp2_with fail;refine wp_loop_rounds 1 ?_;rw[rounds_succ];go_wp2_with fail;refine wp_loop_rounds 1 ?_;rw[rounds_succ];go_wp2_with fail;go_ret;exact⟨rfl,hA⟩
def knE (p:ByteArray):Edt:=⟨p,1,⟨1,false,false,false⟩,1,1,0,z2l,0,0⟩
def knA:ByteArray:=⟨#[47,47,100,47,97]⟩
def knB:ByteArray:=⟨#[47,47,100,47,98]⟩
def KnE (w:World)(Ae:Option Addr)(ce:Nat):Prop:=z47 w (.slice Ae 2 ce) [knE knA,knE knB]
def KnAt (w:World)(a:Addr)(p:ByteArray):Prop:=w.cell? a=some (.string p)∧w.cell? ⟨a.block,a.off+1,none⟩=some (.int .i64 1)∧w.cell? ⟨a.block,a.off+2,none⟩=some (.int .i64 1)∧w.cell? ⟨a.block,a.off+3,none⟩=some (.bool false)∧w.cell? ⟨a.block,a.off+4,none⟩=some (.bool false)∧w.cell? ⟨a.block,a.off+5,none⟩=some (.bool false)∧w.cell? ⟨a.block,a.off+6,none⟩=some (.int .u64 1)∧w.cell? ⟨a.block,a.off+7,none⟩=some (.int .i64 1)∧w.cell? ⟨a.block,a.off+8,none⟩=some (.int .i64 0)∧w.cell? ⟨a.block,a.off+9,none⟩=some (.string ⟨#[]⟩)∧w.cell? ⟨a.block,a.off+10,none⟩=some (.int .i64 0)∧w.cell? ⟨a.block,a.off+11,none⟩=some (.int .i64 0)
theorem KnE.at_ {w:World}{A:Option Addr}{c:Nat}(h:KnE w A c)(k:Nat)(hk:k<2):∃ ad p,A=some ad∧ad.block<w.heap.size∧KnAt w (ad.add (k * 12)) p∧(k=0→p=knA)∧(k=1→p=knB):=by
 obtain⟨ad,e,hb,hx⟩:=z47.at_ (l:=[knE knA,knE knB]) h (k:=k) hk;rcases (by omega:k=0∨k=1) with rfl | rfl
 ·exact⟨ad,knA,e,hb,hx,fun _=>rfl,(fun e=>by cases e)⟩
 ·exact⟨ad,knB,e,hb,hx,(fun e=>by cases e),fun _=>rfl⟩
theorem KnE.below {w w':World}{A:Option Addr}{c:Nat}(h:KnE w A c)(hb:Below w.heap.size w w'):KnE w' A c:=z47.below h hb
theorem knMoves (g bl be bn:Nat)(Ae:Option Addr)(ce:Nat)(w:World)(hk:Chk w g (.slice none 0 0) (.slice none 0 0) 1 ⟨#[]⟩ ⟨#[]⟩ (.slice Ae 2 ce) (.slice none 0 0) bl be bn)(hE:KnE w Ae ce):Calls prog 142 #[.pointer (some ⟨g,0,none⟩)] w fun e w'=>e=.returned (.int .i64 0)∧Below w.heap.size w w':=by
 have HK:=hd_ (fun X (h:Below w.heap.size w X)=>z4a (Blk.below hk h (Blk.lt hk)));have HE:=hd_ (fun X (h:Below w.heap.size w X)=>KnE.below hE h);clear hk hE;have hA:Below w.heap.size w (w.alloc (.map #[] 0)):=(Below.refl _ _).alloc (Nat.le_refl _) _;obtain⟨-,-,-,k5,-,-,-,-⟩:=HK.out _ hA;have hmm:=@run_makeMap prog;go_enter func142,ntmps142;go_wp2_with fail;clear hmm k5;generalize w.alloc (.map #[] 0)=W1 at hA ⊢;go_loopw [15] (fun i wr=>∃ k:Nat,i=.int .i64 k∧k≤2∧Below w.heap.size w wr) (fun i _=>2 - (intOf i).toNat)
 case atStart=>exact⟨0,rfl,by omega,hA⟩
 case round =>
  obtain⟨k,rfl,hk,hb⟩:=hrel;by_cases hlt:k<2
  ·obtain⟨ad,p,rfl,hab,⟨x0,x1,x2,x3,x4,x5,x6,x7,x8,x9,x10,x11⟩,-,-⟩:=(HE.out wr hb).at_ k hlt;have hb2:=zck hb (.cells #[.string p,.int .i64 1,.int .i64 1,.bool false,.bool false,.bool false,.int .u64 1,.int .i64 1,.int .i64 0,.string ⟨#[]⟩,.int .i64 0,.int .i64 0] 100);have q:decide ((k:Int)<2)=true:=by simp;omega
   go_wp2_with fail;go_roundw
   case rel=>exact⟨k+1,by go_num,by omega,hb2⟩
   case measure=>simp [intOf];omega
  ·have hk2:k=2:=by omega
   subst hk2;obtain⟨-,-,-,k5,-,-,-,-⟩:=HK.out _ hb;go_wp2_with fail;clear k5;go_loopw [34] (fun i wr=>∃ k:Nat,i=.int .i64 k∧k≤2∧Below w.heap.size w wr) (fun i _=>2 - (intOf i).toNat)
   case atStart=>exact⟨0,rfl,by omega,hb⟩
   case round =>
    obtain⟨k,rfl,hk,hb⟩:=hrel;by_cases hlt:k<2
    ·obtain⟨ad,p,rfl,hab,⟨x0,x1,x2,x3,x4,x5,x6,x7,x8,x9,x10,x11⟩,-,-⟩:=(HE.out wr hb).at_ k hlt;have hb2:=zck hb (.cells #[.string p,.int .i64 1,.int .i64 1,.bool false,.bool false,.bool false,.int .u64 1,.int .i64 1,.int .i64 0,.string ⟨#[]⟩,.int .i64 0,.int .i64 0] 100);have q:decide ((k:Int)<2)=true:=by simp;omega
     go_wp2_with fail;go_roundw
     case rel=>exact⟨k+1,by go_num,by omega,hb2⟩
     case measure=>simp [intOf];omega
    ·have hk2:k=2:=by omega
     subst hk2;go_wp2_with fail;go_ret;exact⟨rfl,hb⟩
open Go.Sort (grow)
structure PlSt (w wr:World)(B b1 b2:Nat)(v:Value)(op dt:List ByteArray)(ps:List Syn)(k:Nat):Prop where
 own:zjf wr B v ((ps.take k).map (zfd op dt)++ps.drop k)
 s1:zji wr b1 op
 s2:zji wr b2 dt
 low:Below B w wr
theorem set_mid {α:Type}(A D:List α)(x y:α)(k:Nat)(hk:A.length=k):(A++x :: D).set k y=A++y :: D:=by
 subst hk;induction A with
 | nil=>rfl
 | cons a r ih=>rw[List.cons_append,List.length_cons,List.set_cons_succ,ih];rfl
theorem get_mid {α:Type}(A D:List α)(x:α)(k:Nat)(hk:A.length=k)(h:k<(A++x :: D).length):(A++x :: D)[k]=x:=by subst hk;simp
theorem PlSt.next {w wr W:World}{B b1 b2 g c n:Nat}{op dt:List ByteArray}{ps:List Syn}{k:Nat}{x:Syn}{q:Int}(H:PlSt w wr B b1 b2 (.slice (some ⟨g,0,none⟩) n c) op dt ps k)(hX:Below wr.heap.size wr W)
  (hp:ps.drop k=x :: ps.drop (k+1)) (ht:ps.take (k+1)=ps.take k++[x]) (hk:(ps.take k).length=k) (hq:zfc op dt x=q) (h1:b1≠g) (h2:b2≠g) (hB:B≤g) (hs:B≤wr.heap.size):
  PlSt w (W.setCell ⟨g,k * 5,none⟩ (.int .i64 q)) B b1 b2 (.slice (some ⟨g,0,none⟩) n c) op dt ps (k+1):=by
 have hO:zjf W B (.slice (some ⟨g,0,none⟩) n c) ((ps.take k).map (zfd op dt)++x :: ps.drop (k+1)):=by
  have:=z0n H.own hX;rw[hp] at this;exact this
 have hlt:k<((ps.take k).map (zfd op dt)++x :: ps.drop (k+1)).length:=by rw[List.length_append,List.length_map,hk,List.length_cons];omega
 have hO2:=zjf.put hO hlt q;have hx:((ps.take k).map (zfd op dt)++x :: ps.drop (k+1))[k]=x:=get_mid _ _ _ _ (by rw[List.length_map,hk]) hlt
 rw[hx,set_mid _ _ _ _ _ (by rw[List.length_map,hk])] at hO2
 have hkd:zjg q x=zfd op dt x:=by rw[← hq];rfl
 refine⟨?_,z2f.setCell (z2f.below H.s1 hX) (fun e=>h1 e.symm) _,z2f.setCell (z2f.below H.s2 hX) (fun e=>h2 e.symm) _,(H.low.trans (hX.mono hs)).setCell hB _⟩;rw[ht,List.map_append,List.append_assoc];rw[hkd] at hO2;exact hO2
theorem plT8 (T:Code)(hT:Tryz.f12.body.bind (zi2 8)=some T)(R:Ending→World→Prop)(w:World)(B b1 b2 g c:Nat)(Ap:Option Addr)(ps:List Syn)(op dt:List ByteArray)(hAp:0<ps.length→Ap=some ⟨g,0,none⟩)
  (hI:PlSt w w B b1 b2 (.slice Ap ps.length c) op dt ps 0) (h1:b1≠g) (h2:b2≠g) (hB:B≤g) (hBw:B≤w.heap.size) (hl:ps.length≤1000000)
  (hs RL:List Hav) (Ah:Option Addr) (ch:Nat) (P1:List Syn)
  (hBK:∀ X,Below B w X→zjf X B (.slice Ap ps.length c) (ps.map (zfd op dt))→Calls prog 47 #[.slice Ah hs.length ch,.slice Ap ps.length c] X fun e w'=>e=.returned (.tuple #[])∧zjf w' B (.slice Ap ps.length c) P1∧Below B X w')
  (hRS:∀ X,Below B w X→zjf X B (.slice Ap ps.length c) P1→Calls prog 48 #[.slice Ah hs.length ch,.slice Ap ps.length c] X fun e w'=>∃ u,e=.returned u∧z4b w' u RL∧Below X.heap.size X w')
  (hR1:1024<RL.length→∀ X,Below B w X→R (.returned (.tuple #[.slice none 0 0,.int .i64 351])) X)
  (hR2:¬ 1024<RL.length→∀ X,Below B w X→zjf X B (.slice Ap ps.length c) P1→R (.returned (.tuple #[.slice Ap ps.length c,.int .i64 0])) X)
  (u0 u1 u2 u4 u5 u6 u7 u8 u9 gz gA gD gE gF gJ gK gL gM gN gO gP gQ gR gT gV gW gX gY gZ i6 i7 i8 ia ib ic ie ig ii ij ik il im io ip iq ir iu iv iw ix iy iz iA iB iC iD iE iF iG iH iI iJ iK iL iM iN iO iP iQ iR iS iT iU iV iW iX iY iZ j0 j1 j2 j5 j6 j7 j8 j9 jb jd jf jg jh ji jj:Value):
  T.wp prog (bodyPost prog Tryz.f12 R) ⟨#[u0,u1,u2,.slice Ah hs.length ch,u4,u5,u6,u7,u8,u9,gz,gA,.slice none 0 0,gD,gE,gF,.slice Ap ps.length c,.map (some b1),.map (some b2),gJ,gK,gL,gM,gN,gO,gP,gQ,gR,gT,gV,gW,gX,gY,gZ,i6,i7,i8,ia,ib,ic,ie,ig,ii,ij,ik,il,im,io,ip,iq,ir,iu,iv,iw,ix,iy,iz,iA,iB,iC,iD,iE,iF,iG,iH,iI,iJ,iK,iL,iM,iN,iO,iP,iQ,iR,iS,iT,iU,iV,iW,iX,iY,iZ,j0,j1,j2,j5,j6,j7,j8,j9,jb,jd,jf,jg,jh,ji,jj],[]⟩ w:=by
 simp only[Tryz.f12,Option.bind_some,zi2,zi1] at hT
 simp at hT
 subst hT;have HI:=hd_ hI;have HBK:=hd_ hBK;have HRS:=hd_ hRS;have HR1:=hd_ hR1;have HR2:=hd_ hR2;clear hI hBK hRS hR1 hR2;go_wp2_with fail;go_loopw [43] (fun i wr=>∃ k:Nat,k≤ps.length∧i=.int .i64 k∧Hid (PlSt w wr B b1 b2 (.slice Ap ps.length c) op dt ps k)) (fun i _=>ps.length - (intOf i).toNat)
 case atStart=>exact⟨0,Nat.zero_le _,rfl,HI⟩
 case round =>
  obtain⟨k,hk,rfl,HK⟩:=hrel;by_cases hlt:k<ps.length
  ·obtain rfl:=hAp (by omega)
   have hlt2:k<((ps.take k).map (zfd op dt)++ps.drop k).length:=by simp;omega
   have hx:((ps.take k).map (zfd op dt)++ps.drop k)[k]=ps[k]:=by
    rw[List.getElem_append_right (by rw[List.length_map,List.length_take];exact Nat.min_le_left _ _)]
    simp [Nat.min_eq_left hk]
   obtain⟨⟨y0,y1,y2,y3,y4⟩,fz⟩:=zjf.cell HK.out.own hlt2;rw[hx] at y0 y1 y2 y3 y4;have HPX:=hd_ (show ps.drop k=ps[k] :: ps.drop (k+1) from List.drop_eq_getElem_cons hlt);have HTX:=hd_ (show ps.take (k+1)=ps.take k++[ps[k]] from List.take_succ_eq_append_getElem hlt);generalize ps[k]=x at y0 y1 y2 y3 y4 hx HPX HTX;clear hx fz hlt2;have HH1:=hd_ (fun X (hX:Below wr.heap.size wr X)=>zjk op b1 x.path X (z2f.below HK.out.s1 hX));have hA:Below wr.heap.size wr (wr.alloc (.cells #[.int .i64 x.kind,.string x.path,.int .i64 x.num,.string x.frm,.string x.dst] 50)):=(Below.refl _ _).alloc (Nat.le_refl _) _;have HC1:=hd_ (HH1.out _ hA);have HA:=hd_ hA;obtain⟨z0,z1,z2,z3,z4⟩:=z3r (x:=x) (z0l wr [.int .i64 x.kind,.string x.path,.int .i64 x.num,.string x.frm,.string x.dst] 50);have HBX:=hd_ (z0l wr [.int .i64 x.kind,.string x.path,.int .i64 x.num,.string x.frm,.string x.dst] 50);clear hA;by_cases hop:x.path∈op
   ·have HKD:Hid (zfc op dt x=6):=hd_ (if_pos hop);rw[decide_eq_true hop] at HC1;clear hop;go_wp2_with fail;refine HC1.out.mono ?_;rintro e w1 ⟨rfl,hb1⟩;have HB1:=hd_ (HA.out.trans (hb1.mono HA.out.size));clear hb1;have HO1:=hd_ (z0n HK.out.own HB1.out);obtain⟨⟨v0,-,-,-,-⟩,fz⟩:=zjf.cell (show zjf w1 B (.slice (some ⟨g,0,none⟩) ps.length c) ((ps.take k).map (zfd op dt)++ps.drop k) from HO1.out) (k:=k) (by simp;omega)
    clear y0 y1 y2 y3 y4 z0 z1 z2 z3 z4;have HN:=hd_ (HK.out.next HB1.out HPX.out HTX.out (by rw[List.length_take];omega) HKD.out h1 h2 hB (Nat.le_trans hBw HK.out.low.size))
    go_wp2_with fail;go_roundw
    case rel=>exact⟨k+1,by omega,by go_num,HN⟩
    case measure=>simp [intOf];omega
   ·have HOP:=hd_ hop;rw[decide_eq_false hop] at HC1;clear hop;have HF1:=hd_ (fun X (hX:Below wr.heap.size wr X)=>zjk dt b2 x.frm X (z2f.below HK.out.s2 hX));have HD1:=hd_ (fun X (hX:Below wr.heap.size wr X)=>zjk dt b2 x.dst X (z2f.below HK.out.s2 hX));have HCELL:=hd_ (fun X (hX:Below wr.heap.size wr X)=>zjf.cell (show zjf X B (.slice (some ⟨g,0,none⟩) ps.length c) ((ps.take k).map (zfd op dt)++ps.drop k) from z0n HK.out.own hX) (k:=k) (by simp;omega))
    go_wp2_with fail;refine HC1.out.mono ?_;rintro e w1 ⟨rfl,hb1⟩;have HB1:=hd_ (HA.out.trans (hb1.mono HA.out.size));have HX1:=hd_ (HBX.out.below hb1 HBX.out.lt);clear hb1 y0 y1 y2 y3 y4 z0 z1 z2 z3 z4;obtain⟨z0,z1,z2,z3,z4⟩:=z3r (x:=x) HX1.out;by_cases hf:x.frm=z2l
    ·by_cases hd:x.dst=z2l
     ·have HFE:=hd_ hf;obtain⟨s1,s2⟩:=z3v hf;have HDE:=hd_ hd;obtain⟨t1,t2⟩:=z3v hd;have HKD:Hid (zfc op dt x=z3p x.frm x.dst):=hd_ (by unfold zfc;rw[if_neg HOP.out,if_neg (fun h=>h.elim (fun h=>h.1 HFE.out) (fun h=>h.1 HDE.out))])
      clear hf hd;have HKC:=hd_ (z3y x w1);go_wp2_with fail;refine HKC.out.mono ?_;rintro e w2 ⟨rfl,hb2⟩;have HB2:=hd_ (HB1.out.trans (hb2.mono HB1.out.size));have HX2:=hd_ (HX1.out.below hb2 HX1.out.lt);clear hb2 z0 z1 z2 z3 z4;obtain⟨z0,z1,z2,z3,z4⟩:=z3r (x:=x) HX2.out;obtain⟨⟨v0,-,-,-,-⟩,fz⟩:=HCELL.out w2 HB2.out;have HN:=hd_ (HK.out.next HB2.out HPX.out HTX.out (by rw[List.length_take];omega) HKD.out h1 h2 hB (Nat.le_trans hBw HK.out.low.size))
      go_wp2_with fail;go_roundw
      case rel=>exact⟨k+1,by omega,by go_num,HN⟩
      case measure=>simp [intOf];omega
     ·by_cases hdd:x.dst∈dt
      ·have HFE:=hd_ hf;obtain⟨s1,s2⟩:=z3v hf;have HDE:=hd_ hd;obtain⟨t1,t2⟩:=z3w hd;have HDD:=hd_ hdd;have HKD:Hid (zfc op dt x=5):=hd_ (by unfold zfc;rw[if_neg HOP.out,if_pos (.inr ⟨HDE.out,HDD.out⟩)])
       clear hf hd hdd;have HCD:=hd_ (HD1.out w1 HB1.out);rw[decide_eq_true HDD.out] at HCD;go_wp2_with fail;refine HCD.out.mono ?_;rintro e w2 ⟨rfl,hb2⟩;have HB2:=hd_ (HB1.out.trans (hb2.mono HB1.out.size));have HX2:=hd_ (HX1.out.below hb2 HX1.out.lt);clear hb2 z0 z1 z2 z3 z4;obtain⟨z0,z1,z2,z3,z4⟩:=z3r (x:=x) HX2.out;obtain⟨⟨v0,-,-,-,-⟩,fz⟩:=HCELL.out w2 HB2.out;have HN:=hd_ (HK.out.next HB2.out HPX.out HTX.out (by rw[List.length_take];omega) HKD.out h1 h2 hB (Nat.le_trans hBw HK.out.low.size))
       go_wp2_with fail;go_roundw
       case rel=>exact⟨k+1,by omega,by go_num,HN⟩
       case measure=>simp [intOf];omega
      ·have HFE:=hd_ hf;obtain⟨s1,s2⟩:=z3v hf;have HDE:=hd_ hd;obtain⟨t1,t2⟩:=z3w hd;have HDD:=hd_ hdd;have HKD:Hid (zfc op dt x=z3p x.frm x.dst):=hd_ (by unfold zfc;rw[if_neg HOP.out,if_neg (fun h=>h.elim (fun h=>h.1 HFE.out) (fun h=>HDD.out h.2))])
       clear hf hd hdd;have HCD:=hd_ (HD1.out w1 HB1.out);rw[decide_eq_false HDD.out] at HCD;go_wp2_with fail;refine HCD.out.mono ?_;rintro e w2 ⟨rfl,hb2⟩;have HB2:=hd_ (HB1.out.trans (hb2.mono HB1.out.size));have HX2:=hd_ (HX1.out.below hb2 HX1.out.lt);clear hb2 z0 z1 z2 z3 z4;obtain⟨z0,z1,z2,z3,z4⟩:=z3r (x:=x) HX2.out;have HKC:=hd_ (z3y x w2);go_wp2_with fail;refine HKC.out.mono ?_;rintro e w3 ⟨rfl,hb3⟩;have HB3:=hd_ (HB2.out.trans (hb3.mono HB2.out.size));have HX3:=hd_ (HX2.out.below hb3 HX2.out.lt);clear hb3 z0 z1 z2 z3 z4;obtain⟨z0,z1,z2,z3,z4⟩:=z3r (x:=x) HX3.out;obtain⟨⟨v0,-,-,-,-⟩,fz⟩:=HCELL.out w3 HB3.out;have HN:=hd_ (HK.out.next HB3.out HPX.out HTX.out (by rw[List.length_take];omega) HKD.out h1 h2 hB (Nat.le_trans hBw HK.out.low.size))
       go_wp2_with fail;go_roundw
       case rel=>exact⟨k+1,by omega,by go_num,HN⟩
       case measure=>simp [intOf];omega
    ·by_cases hfd:x.frm∈dt
     ·have HFE:=hd_ hf;obtain⟨s1,s2⟩:=z3w hf;have HCF:=hd_ (HF1.out w1 HB1.out);rw[decide_eq_true hfd] at HCF;have HFD:=hd_ hfd;have HKD:Hid (zfc op dt x=5):=hd_ (by unfold zfc;rw[if_neg HOP.out,if_pos (.inl ⟨HFE.out,HFD.out⟩)])
      clear hf hfd;go_wp2_with fail;refine HCF.out.mono ?_;rintro e w2 ⟨rfl,hb2⟩;have HB2:=hd_ (HB1.out.trans (hb2.mono HB1.out.size));have HX2:=hd_ (HX1.out.below hb2 HX1.out.lt);clear hb2 z0 z1 z2 z3 z4;obtain⟨z0,z1,z2,z3,z4⟩:=z3r (x:=x) HX2.out;obtain⟨⟨v0,-,-,-,-⟩,fz⟩:=HCELL.out w2 HB2.out;have HN:=hd_ (HK.out.next HB2.out HPX.out HTX.out (by rw[List.length_take];omega) HKD.out h1 h2 hB (Nat.le_trans hBw HK.out.low.size))
      go_wp2_with fail;go_roundw
      case rel=>exact⟨k+1,by omega,by go_num,HN⟩
      case measure=>simp [intOf];omega
     ·by_cases hd:x.dst=z2l
      ·have HFE:=hd_ hf;obtain⟨s1,s2⟩:=z3w hf;have HCF:=hd_ (HF1.out w1 HB1.out);rw[decide_eq_false hfd] at HCF;have HFD:=hd_ hfd;have HDE:=hd_ hd;obtain⟨t1,t2⟩:=z3v hd;have HKD:Hid (zfc op dt x=z3p x.frm x.dst):=hd_ (by unfold zfc;rw[if_neg HOP.out,if_neg (fun h=>h.elim (fun h=>HFD.out h.2) (fun h=>h.1 HDE.out))])
       clear hf hfd hd;go_wp2_with fail;refine HCF.out.mono ?_;rintro e w2 ⟨rfl,hb2⟩;have HB2:=hd_ (HB1.out.trans (hb2.mono HB1.out.size));have HX2:=hd_ (HX1.out.below hb2 HX1.out.lt);clear hb2 z0 z1 z2 z3 z4;obtain⟨z0,z1,z2,z3,z4⟩:=z3r (x:=x) HX2.out;have HKC:=hd_ (z3y x w2);go_wp2_with fail;refine HKC.out.mono ?_;rintro e w3 ⟨rfl,hb3⟩;have HB3:=hd_ (HB2.out.trans (hb3.mono HB2.out.size));have HX3:=hd_ (HX2.out.below hb3 HX2.out.lt);clear hb3 z0 z1 z2 z3 z4;obtain⟨z0,z1,z2,z3,z4⟩:=z3r (x:=x) HX3.out;obtain⟨⟨v0,-,-,-,-⟩,fz⟩:=HCELL.out w3 HB3.out;have HN:=hd_ (HK.out.next HB3.out HPX.out HTX.out (by rw[List.length_take];omega) HKD.out h1 h2 hB (Nat.le_trans hBw HK.out.low.size))
       go_wp2_with fail;go_roundw
       case rel=>exact⟨k+1,by omega,by go_num,HN⟩
       case measure=>simp [intOf];omega
      ·by_cases hdd:x.dst∈dt
       ·have HFE:=hd_ hf;obtain⟨s1,s2⟩:=z3w hf;have HCF:=hd_ (HF1.out w1 HB1.out);rw[decide_eq_false hfd] at HCF;have HFD:=hd_ hfd;have HDE:=hd_ hd;obtain⟨t1,t2⟩:=z3w hd;have HDD:=hd_ hdd;have HKD:Hid (zfc op dt x=5):=hd_ (by unfold zfc;rw[if_neg HOP.out,if_pos (.inr ⟨HDE.out,HDD.out⟩)])
        clear hf hfd hd hdd;go_wp2_with fail;refine HCF.out.mono ?_;rintro e w2 ⟨rfl,hb2⟩;have HB2:=hd_ (HB1.out.trans (hb2.mono HB1.out.size));have HX2:=hd_ (HX1.out.below hb2 HX1.out.lt);clear hb2 z0 z1 z2 z3 z4;obtain⟨z0,z1,z2,z3,z4⟩:=z3r (x:=x) HX2.out;have HCD:=hd_ (HD1.out w2 HB2.out);rw[decide_eq_true HDD.out] at HCD;go_wp2_with fail;refine HCD.out.mono ?_;rintro e w3 ⟨rfl,hb3⟩;have HB3:=hd_ (HB2.out.trans (hb3.mono HB2.out.size));have HX3:=hd_ (HX2.out.below hb3 HX2.out.lt);clear hb3 z0 z1 z2 z3 z4;obtain⟨z0,z1,z2,z3,z4⟩:=z3r (x:=x) HX3.out;obtain⟨⟨v0,-,-,-,-⟩,fz⟩:=HCELL.out w3 HB3.out;have HN:=hd_ (HK.out.next HB3.out HPX.out HTX.out (by rw[List.length_take];omega) HKD.out h1 h2 hB (Nat.le_trans hBw HK.out.low.size))
        go_wp2_with fail;go_roundw
        case rel=>exact⟨k+1,by omega,by go_num,HN⟩
        case measure=>simp [intOf];omega
       ·have HFE:=hd_ hf;obtain⟨s1,s2⟩:=z3w hf;have HCF:=hd_ (HF1.out w1 HB1.out);rw[decide_eq_false hfd] at HCF;have HFD:=hd_ hfd;have HDE:=hd_ hd;obtain⟨t1,t2⟩:=z3w hd;have HDD:=hd_ hdd;have HKD:Hid (zfc op dt x=z3p x.frm x.dst):=hd_ (by unfold zfc;rw[if_neg HOP.out,if_neg (fun h=>h.elim (fun h=>HFD.out h.2) (fun h=>HDD.out h.2))])
        clear hf hfd hd hdd;go_wp2_with fail;refine HCF.out.mono ?_;rintro e w2 ⟨rfl,hb2⟩;have HB2:=hd_ (HB1.out.trans (hb2.mono HB1.out.size));have HX2:=hd_ (HX1.out.below hb2 HX1.out.lt);clear hb2 z0 z1 z2 z3 z4;obtain⟨z0,z1,z2,z3,z4⟩:=z3r (x:=x) HX2.out;have HCD:=hd_ (HD1.out w2 HB2.out);rw[decide_eq_false HDD.out] at HCD;go_wp2_with fail;refine HCD.out.mono ?_;rintro e w3 ⟨rfl,hb3⟩;have HB3:=hd_ (HB2.out.trans (hb3.mono HB2.out.size));have HX3:=hd_ (HX2.out.below hb3 HX2.out.lt);clear hb3 z0 z1 z2 z3 z4;obtain⟨z0,z1,z2,z3,z4⟩:=z3r (x:=x) HX3.out;have HKC:=hd_ (z3y x w3);go_wp2_with fail;refine HKC.out.mono ?_;rintro e w4 ⟨rfl,hb4⟩;have HB4:=hd_ (HB3.out.trans (hb4.mono HB3.out.size));have HX4:=hd_ (HX3.out.below hb4 HX3.out.lt);clear hb4 z0 z1 z2 z3 z4;obtain⟨z0,z1,z2,z3,z4⟩:=z3r (x:=x) HX4.out;obtain⟨⟨v0,-,-,-,-⟩,fz⟩:=HCELL.out w4 HB4.out;have HN:=hd_ (HK.out.next HB4.out HPX.out HTX.out (by rw[List.length_take];omega) HKD.out h1 h2 hB (Nat.le_trans hBw HK.out.low.size))
        go_wp2_with fail;go_roundw
        case rel=>exact⟨k+1,by omega,by go_num,HN⟩
        case measure=>simp [intOf];omega
  ·have hke:k=ps.length:=by omega
   have HO0:Hid (zjf wr B (.slice Ap ps.length c) (ps.map (zfd op dt))):=hd_ (by
    have:=HK.out.own;rw[hke,List.take_length,List.drop_length,List.append_nil] at this;exact this)
   have HL:=hd_ HK.out.low;have HC:=hd_ (HBK.out wr HL.out HO0.out);have HBW:=hd_ (Nat.le_trans hBw HK.out.low.size);clear hke HK;go_wp2_with fail;refine HC.out.mono ?_;rintro e w1 ⟨rfl,ho,hb⟩;have HO1:=hd_ ho;have HL1:=hd_ (HL.out.trans hb);have HS1:=hd_ (Nat.le_trans HBW.out hb.size);have HC2:=hd_ (HRS.out w1 HL1.out ho);clear ho hb;go_wp2_with fail;refine HC2.out.mono ?_;rintro e w2 ⟨u,rfl,hu,hb⟩;have HL2:=hd_ (HL1.out.trans (hb.mono HS1.out));have HO2:=hd_ (show zjf w2 B _ P1 from z0n HO1.out hb);obtain⟨Au,cu,rfl,-⟩:=id hu;clear hu hb;by_cases hr:1024<RL.length
   ·have HF:=hd_ (HR1.out hr w2 HL2.out);go_wp2_with fail;exact HF.out
   ·have HF:=hd_ (HR2.out hr w2 HL2.out HO2.out);go_wp2_with fail;exact HF.out
theorem zn8 (b:Pat)(hs:List zd6)(A H:Option Addr)(a c:Nat)(w:World)(hb:zae w (.slice A b.parts.length a) b)(hh:zd7 w (.slice H hs.length c) hs)(hl:hs.length≤1000000):
  Calls prog 29 #[.agg #[.slice A b.parts.length a,.bool b.rest,.slice H hs.length c]] w fun e w'=>e=.returned (.int .i64 (zd8 b hs))∧Below w.heap.size w w':=by
 have hB:=z0l w [.slice A b.parts.length a,.bool b.rest,.slice H hs.length c] 78;have hA:Below w.heap.size w (w.alloc (.cells #[.slice A b.parts.length a,.bool b.rest,.slice H hs.length c] 78)):=(Below.refl _ _).alloc (Nat.le_refl _) _;have HC:=hd_ (fun X (hX:Below w.heap.size w X)=>zcf b A a X (hb.below hX).1 hb.small);have HH:=hd_ hh;have HN1:=hd_ (@zd9 b hs);have HN2:=hd_ (fun k=>@zda b hs k);have HN3:=hd_ (@zdb b hs);clear hb hh;go_enter func29,ntmps29;go_upto_region 1 with fail;generalize w.alloc (.cells #[.slice A b.parts.length a,.bool b.rest,.slice H hs.length c] 78)=W1 at hA hB ⊢;obtain⟨d0,d1⟩:=(⟨hB.cell 0,hB.cell 1⟩:W1.cell? ⟨w.heap.size,0,none⟩=some (.slice A b.parts.length a)∧W1.cell? ⟨w.heap.size,1,none⟩=some (.bool b.rest));have HB:=hd_ hB;have HA:=hd_ hA;have HC1:=hd_ (HC.out W1 hA);clear hA hB HC;obtain⟨pe,hpe⟩:∃ pe,z7j b=pe:=⟨_,rfl⟩;have HPE:=hd_ hpe;rw[hpe] at HC1;clear hpe;by_cases h0:pe=0
 case neg =>
  have q:(pe != 0)=true:=by simpa using h0
  have HR:=hd_ (HN1.out (by rw[HPE.out];exact h0))
  clear h0;go_wp2_with fail;refine HC1.out.mono ?_;rintro e w2 ⟨rfl,hb⟩;have HB2:=hd_ (z0r HA.out hb);clear hb d0 d1;go_wp2_with fail;go_ret;exact⟨z7o HR.out.symm,HB2.out⟩
 subst h0;go_wp2_with fail;refine HC1.out.mono ?_;rintro e w2 ⟨rfl,hb⟩;have HA:=hd_ (z0r HA.out hb);have HB:=hd_ (HB.out.below hb HB.out.lt);clear hb d0 d1 HC1;have d2:w2.cell? ⟨w.heap.size,2,none⟩=some (.slice H hs.length c):=HB.out.cell 2;go_wp2_with fail;go_loopw [12] (fun i wr=>∃ k:Nat,i=.int .i64 k∧k≤hs.length∧Hid ((∀ j (hj:j<hs.length),j<k→z7j hs[j].1=0)∧Below w2.heap.size w2 wr)) (fun i _=>hs.length - (intOf i).toNat)
 case atStart=>exact⟨0,rfl,Nat.zero_le _,hd_ ⟨fun j _ h=>by omega,Below.refl _ _⟩⟩
 case round =>
  obtain⟨k,rfl,hk,HI⟩:=hrel;clear d2;by_cases hlt:k<hs.length
  ·have HHX:=hd_ (HH.out.below (z0r HA.out HI.out.2));obtain⟨ad,rfl,hab,s0,s1⟩:=HHX.out.at_ hlt;have HPK:=hd_ (HHX.out.2 hs[k] (List.getElem_mem hlt));have HNO:=hd_ (HN2.out k HPE.out hlt);have HYE:Hid (z7j hs[k].1=0→∀ j (hj:j<hs.length),j<k+1→z7j hs[j].1=0):=hd_ (fun h j hj hjk=>by
    by_cases e:j=k
    ·subst e;exact h
    ·exact HI.out.1 j hj (by omega))
   generalize hs[k]=q at s0 s1 HPK HNO HYE;obtain⟨q,Aq,cq⟩:=q;change wr.cell? _=some (.slice Aq q.parts.length cq) at s0;change wr.cell? _=some (.bool q.rest) at s1;have hX:Below w2.heap.size w2 (wr.alloc (.cells #[.slice Aq q.parts.length cq,.bool q.rest] 68)):=HI.out.2.alloc HI.out.2.size _;have hbq:Below wr.heap.size wr (wr.alloc (.cells #[.slice Aq q.parts.length cq,.bool q.rest] 68)):=(Below.refl _ _).alloc (Nat.le_refl _) _;have HCQ:=hd_ (zcf q Aq cq (wr.alloc (.cells #[.slice Aq q.parts.length cq,.bool q.rest] 68)) (HPK.out.below hbq).1 HPK.out.small);have HX:=hd_ hX;clear hab hX hbq;obtain⟨qe,hqe⟩:∃ qe,z7j q=qe:=⟨_,rfl⟩;have HQE:=hd_ hqe;rw[hqe] at HCQ;clear hqe;have HLT:=hd_ hlt;by_cases h1:qe=0
   ·subst h1;have HN:=hd_ (HYE.out HQE.out);go_wp2_with fail;refine HCQ.out.mono ?_;rintro e w4 ⟨rfl,hb⟩;have HB4:=hd_ (z0r HX.out hb);clear hb s0 s1;go_wp2_with fail;go_roundw
    case rel=>exact⟨k+1,by go_num,by omega,hd_ ⟨HN.out,HB4.out⟩⟩
    case measure=>simp [intOf];omega
   ·have hq:(qe != 0)=true:=by simpa using h1
    have HR:=hd_ (HNO.out (by show z7j q≠0;rw[HQE.out];exact h1))
    clear h1;go_wp2_with fail;refine HCQ.out.mono ?_;rintro e w4 ⟨rfl,hb⟩;have HB4:=hd_ (z0r HA.out (z0r HX.out hb));clear hb s0 s1;go_wp2_with fail;go_ret;exact⟨z7o HR.out.symm,HB4.out⟩
  ·have hke:k=hs.length:=by omega
   subst hke;have HE:=hd_ (HN3.out HPE.out (fun j hj=>HI.out.1 j hj hj));have HBE:=hd_ (z0r HA.out HI.out.2);have d2:wr.cell? ⟨w.heap.size,2,none⟩=some (.slice H hs.length c):=(HB.out.below HI.out.2 HB.out.lt).cell 2;have hge:¬((hs.length:Int)<(hs.length:Int)):=by omega
   by_cases h6:64<hs.length
   ·have q6:decide ((64:Int)<(hs.length:Int))=true:=by simp;omega
    have q7:(64:Int)<(hs.length:Int):=by omega
    have HR:=hd_ (HE.out.trans (if_pos h6));clear h6;go_wp2_with fail;go_ret;exact⟨z7o HR.out.symm,HBE.out⟩
   ·have q6:decide ((64:Int)<(hs.length:Int))=false:=by simp;omega
    have q7:¬(64:Int)<(hs.length:Int):=by omega
    have HR:=hd_ (HE.out.trans (if_neg h6));clear h6;go_wp2_with fail;go_ret;exact⟨z7o HR.out.symm,HBE.out⟩
theorem zn9 (A B:Option Addr)(n m a b:Nat)(x y:Bool)(h0:Value)(w:World):Calls prog 28 #[.agg #[(.slice A n a),(.bool x),(.slice B m b),(.bool y),h0]] w fun e w'=>e=.returned (.agg #[.bool false,(.slice A n a),(.bool x),(.slice B m b),(.bool y)])∧Below w.heap.size w w':=by
 have hB:=z0l w [(.slice A n a),(.bool x),(.slice B m b),(.bool y),h0] 71;have hA:Below w.heap.size w (w.alloc (.cells #[(.slice A n a),(.bool x),(.slice B m b),(.bool y),h0] 71)):=(Below.refl _ _).alloc (Nat.le_refl _) _;go_enter func28,ntmps28;go_upto_region 1 with fail;have hZ:=z0l (w.alloc (.cells #[(.slice A n a),(.bool x),(.slice B m b),(.bool y),h0] 71)) [.bool false,.slice none 0 0,.bool false,.slice none 0 0,.bool false] 74;rw[World.size_alloc] at hZ;have hB1:=hB.alloc (.cells #[.bool false,.slice none 0 0,.bool false,.slice none 0 0,.bool false] 74);have hA1:=hA.alloc (by simp:w.heap.size≤_) (.cells #[.bool false,.slice none 0 0,.bool false,.slice none 0 0,.bool false] 74)
 generalize (w.alloc (.cells #[(.slice A n a),(.bool x),(.slice B m b),(.bool y),h0] 71)).alloc (.cells #[.bool false,.slice none 0 0,.bool false,.slice none 0 0,.bool false] 74)=W1 at hZ hB1 hA1 ⊢;obtain⟨d0,d1,d2,d3⟩:=(⟨hB1.cell 0,hB1.cell 1,hB1.cell 2,hB1.cell 3⟩:W1.cell? ⟨w.heap.size,0,none⟩=some (.slice A n a)∧W1.cell? ⟨w.heap.size,1,none⟩=some (.bool x)∧W1.cell? ⟨w.heap.size,2,none⟩=some (.slice B m b)∧W1.cell? ⟨w.heap.size,3,none⟩=some (.bool y));obtain⟨z0,z1,z2,z3,z4⟩:=(⟨hZ.cell 0,hZ.cell 1,hZ.cell 2,hZ.cell 3,hZ.cell 4⟩:W1.cell? ⟨w.heap.size+1,0,none⟩=some (.bool false)∧W1.cell? ⟨w.heap.size+1,1,none⟩=some (.slice none 0 0)∧W1.cell? ⟨w.heap.size+1,2,none⟩=some (.bool false)∧W1.cell? ⟨w.heap.size+1,3,none⟩=some (.slice none 0 0)∧W1.cell? ⟨w.heap.size+1,4,none⟩=some (.bool false));obtain⟨y0,y1,y2,y3,y4⟩:=(⟨hZ.frozen 0,hZ.frozen 1,hZ.frozen 2,hZ.frozen 3,hZ.frozen 4⟩:W1.frozen? ⟨w.heap.size+1,0,none⟩=false∧W1.frozen? ⟨w.heap.size+1,1,none⟩=false∧W1.frozen? ⟨w.heap.size+1,2,none⟩=false∧W1.frozen? ⟨w.heap.size+1,3,none⟩=false∧W1.frozen? ⟨w.heap.size+1,4,none⟩=false);go_wp2_with fail;have hE:=((((hZ.set_ 0 (.bool false)).set_ 1 (.slice A n a)).set_ 2 (.bool x)).set_ 3 (.slice B m b)).set_ 4 (.bool y);have hb:=((((hA1.setCell (p:=⟨w.heap.size+1,0,none⟩) (by simp) (.bool false)).setCell (p:=⟨w.heap.size+1,1,none⟩) (by simp) (.slice A n a)).setCell (p:=⟨w.heap.size+1,2,none⟩) (by simp) (.bool x)).setCell (p:=⟨w.heap.size+1,3,none⟩) (by simp) (.slice B m b)).setCell (p:=⟨w.heap.size+1,4,none⟩) (by simp) (.bool y)
 generalize ((((W1.setCell ⟨w.heap.size+1,0,none⟩ (.bool false)).setCell ⟨w.heap.size+1,1,none⟩ (.slice A n a)).setCell ⟨w.heap.size+1,2,none⟩ (.bool x)).setCell ⟨w.heap.size+1,3,none⟩ (.slice B m b)).setCell ⟨w.heap.size+1,4,none⟩ (.bool y)=W3 at hE hb ⊢;have e0:=hE.cell 0;have e1:=hE.cell 1;have e2:=hE.cell 2;have e3:=hE.cell 3;have e4:=hE.cell 4;exact bodyPost_ret (v:=.agg #[.bool false,.slice A n a,.bool x,.slice B m b,.bool y]) (by simp [results,results28,go_sem,e0,e1,e2,e3,e4]) rfl ⟨rfl,hb⟩
theorem zna (A H:Option Addr)(n a k c:Nat)(x y:Bool)(r0:Value)(w:World):Calls prog 30 #[.agg #[.slice A n a,.bool x,r0,.bool y,.slice H k c]] w fun e w'=>e=.returned (.agg #[.slice A n a,.bool x,.slice H k c])∧Below w.heap.size w w':=by
 have hB:=z0l w [.slice A n a,.bool x,r0,.bool y,.slice H k c] 71;have hA:Below w.heap.size w (w.alloc (.cells #[.slice A n a,.bool x,r0,.bool y,.slice H k c] 71)):=(Below.refl _ _).alloc (Nat.le_refl _) _;go_enter func30,ntmps30;go_upto_region 1 with fail;have hZ:=z0l (w.alloc (.cells #[.slice A n a,.bool x,r0,.bool y,.slice H k c] 71)) [.slice none 0 0,.bool false,.slice none 0 0] 78;rw[World.size_alloc] at hZ;have hB1:=hB.alloc (.cells #[.slice none 0 0,.bool false,.slice none 0 0] 78);have hA1:=hA.alloc (by simp:w.heap.size≤_) (.cells #[.slice none 0 0,.bool false,.slice none 0 0] 78)
 generalize (w.alloc (.cells #[.slice A n a,.bool x,r0,.bool y,.slice H k c] 71)).alloc (.cells #[.slice none 0 0,.bool false,.slice none 0 0] 78)=W1 at hZ hB1 hA1 ⊢;obtain⟨d0,d1,d4⟩:=(⟨hB1.cell 0,hB1.cell 1,hB1.cell 4⟩:W1.cell? ⟨w.heap.size,0,none⟩=some (.slice A n a)∧W1.cell? ⟨w.heap.size,1,none⟩=some (.bool x)∧W1.cell? ⟨w.heap.size,4,none⟩=some (.slice H k c));obtain⟨z0,z1,z2⟩:=(⟨hZ.cell 0,hZ.cell 1,hZ.cell 2⟩:W1.cell? ⟨w.heap.size+1,0,none⟩=some (.slice none 0 0)∧W1.cell? ⟨w.heap.size+1,1,none⟩=some (.bool false)∧W1.cell? ⟨w.heap.size+1,2,none⟩=some (.slice none 0 0));obtain⟨y0,y1,y2⟩:=(⟨hZ.frozen 0,hZ.frozen 1,hZ.frozen 2⟩:W1.frozen? ⟨w.heap.size+1,0,none⟩=false∧W1.frozen? ⟨w.heap.size+1,1,none⟩=false∧W1.frozen? ⟨w.heap.size+1,2,none⟩=false);go_wp2_with fail;have hE:=((hZ.set_ 0 (.slice A n a)).set_ 1 (.bool x)).set_ 2 (.slice H k c);have hb:=((hA1.setCell (p:=⟨w.heap.size+1,0,none⟩) (by simp) (.slice A n a)).setCell (p:=⟨w.heap.size+1,1,none⟩) (by simp) (.bool x)).setCell (p:=⟨w.heap.size+1,2,none⟩) (by simp) (.slice H k c)
 generalize ((W1.setCell ⟨w.heap.size+1,0,none⟩ (.slice A n a)).setCell ⟨w.heap.size+1,1,none⟩ (.bool x)).setCell ⟨w.heap.size+1,2,none⟩ (.slice H k c)=W3 at hE hb ⊢;have e0:=hE.cell 0;have e1:=hE.cell 1;have e2:=hE.cell 2;exact bodyPost_ret (v:=.agg #[.slice A n a,.bool x,.slice H k c]) (by simp [results,results30,go_sem,e0,e1,e2]) rfl ⟨rfl,hb⟩
section
variable {u0 u1 u2 u3 u4 u5 u6 u7 u8 u9 gz gA gC gD gE gF gG gH gI gJ gK gL gM gN gO gP gQ gR gT gV gW gX gY gZ i6 i7 i8 ia ib : Value}
theorem znb {w:World}{g:Nat}{t:TypeId}{cs:List Value}{v:Value}{l:List ByteArray}(hB:Blk w g t cs)(hns:∀ u∈cs,∀ s,u≠.string s)(h:Strs w v l)(i:Nat)(u:Value):Strs (w.setCell ⟨g,i,none⟩ u) v l:=by
  obtain⟨A,c,rfl,hc,hm,hl,h0,hx⟩:=h;refine⟨A,c,rfl,hc,hm,hl,h0,fun hn=>?_⟩;obtain⟨ad,rfl,hb,hcell⟩:=hx hn;refine⟨ad,rfl,by simpa using hb,fun j x hx2=>?_⟩
  have hq:=hcell j x hx2;by_cases hg:ad.block=g
  · exfalso
    rw[List.getElem?_map] at hx2;obtain⟨s,-,rfl⟩:=Option.map_eq_some_iff.1 hx2;unfold World.cell? at hq
    unfold Blk at hB;rw[show (ad.add j).block=g from (z00 ad j).trans hg,hB] at hq;simp at hq
    exact hns _ (List.mem_of_getElem? hq.2) s rfl
  · rw[World.cell?_setCell_far _ _ _ _ (fun e=>hg ((z00 ad j).symm.trans e.symm))]
    exact hq
theorem rt_end2 {w6:World}{g n m c d:Nat}{A C:Option Addr}{b1 b2 b3:Bool}{v:Value}{l:List ByteArray}(hB:Blk w6 g 74 [.bool false,.slice none 0 0,.bool false,.slice none 0 0,.bool false])(h:Strs w6 v l):
    Strs (((((w6.setCell ⟨g,0,none⟩ (.bool b1)).setCell ⟨g,1,none⟩ (.slice A n c)).setCell ⟨g,2,none⟩ (.bool b2)).setCell ⟨g,3,none⟩ (.slice C m d)).setCell ⟨g,4,none⟩ (.bool b3)) v l:=by
  have g1:=znb hB (by simp) h 0 (.bool b1)
  have B1:=hB.set_ 0 (.bool b1);have g2:=znb B1 (by simp) g1 1 (.slice A n c)
  have B2:=B1.set_ 1 (.slice A n c);have g3:=znb B2 (by simp) g2 2 (.bool b2)
  have B3:=B2.set_ 2 (.bool b2);have g4:=znb B3 (by simp) g3 3 (.slice C m d)
  have B4:=B3.set_ 3 (.slice C m d);exact znb B4 (by simp) g4 4 (.bool b3)
theorem rrR5 (ops:Array Oper)(hops:Tryz.f31.body.bind (zcn 5)=some ops)(Q:Exit→Act→World→Prop)(l r h m:Pat)(A B C H:Option Addr)(a b c n hc g1 g6:Nat)(V1:World)
    (h1:Blk V1 g1 71 [.slice A l.parts.length a,.bool l.rest,.slice C r.parts.length c,.bool r.rest,.slice H n hc]) (h6:zbt V1 g6 (.slice B h.parts.length b) h.rest)
    (hl:zae V1 (.slice A l.parts.length a) l) (hh:zae V1 (.slice B h.parts.length b) h) (hr:zae V1 (.slice C r.parts.length c) r) (hn:zd1 l r h m) (hsym:zn6 l h)
    (hQ:∀(eu ez eA eB eC eD eE eF:Value) (g7:Nat) (A' C':Option Addr) (a' c':Nat) (w':World),Below V1.heap.size V1 w'→w'.cell? ⟨g7,3,none⟩=some (.slice C' (zd0 l r m).parts.length c')→w'.cell? ⟨g7,4,none⟩=some (.bool true)→V1.heap.size≤g7→zae w' (.slice C' (zd0 l r m).parts.length c') (zd0 l r m)→Q .normal ⟨#[u0,.pointer (some ⟨g1,0,none⟩),u2,u3,u4,u5,.pointer (some ⟨g6,0,none⟩),.pointer (some ⟨g7,0,none⟩),.bool true,.int .i64 0,gz,gA,gC,gD,gE,gF,gG,eu,ez,eA,eB,eC,eD,eE,eF,gP,gQ,gR,gT,gV,gW,gX,gY,gZ,i6,i7,i8,ia,ib],[]⟩ w'):
    (Code.region 5 ops true).wp prog Q ⟨#[u0,.pointer (some ⟨g1,0,none⟩),u2,u3,u4,u5,.pointer (some ⟨g6,0,none⟩),u7,u8,u9,gz,gA,gC,gD,gE,gF,gG,gH,gI,gJ,gK,gL,gM,gN,gO,gP,gQ,gR,gT,gV,gW,gX,gY,gZ,i6,i7,i8,ia,ib],[]⟩ V1:=by
  simp only[Tryz.f31,Option.bind_some,zcn] at hops
  simp at hops
  subst hops;have HQ:=hd_ hQ;have H6:=hd_ h6;have HLI:=hd_ (fun X=>zn9 A C l.parts.length r.parts.length a c l.rest r.rest (.slice H n hc) X);have HNA:=hd_ (fun X (hX:Below V1.heap.size V1 X)=>zn7 false l r h m A B C a b c X (hl.below hX) (hh.below hX) (hr.below hX) hn hsym);obtain⟨x0,x1,x2,x3,x4⟩:=(⟨h1.cell 0,h1.cell 1,h1.cell 2,h1.cell 3,h1.cell 4⟩:V1.cell? ⟨g1,0,none⟩=some (.slice A l.parts.length a)∧V1.cell? ⟨g1,1,none⟩=some (.bool l.rest)∧V1.cell? ⟨g1,2,none⟩=some (.slice C r.parts.length c)∧V1.cell? ⟨g1,3,none⟩=some (.bool r.rest)∧V1.cell? ⟨g1,4,none⟩=some (.slice H n hc));have y0:=h6.c0;have y1:=h6.c1;have hVA:Below V1.heap.size V1 (V1.alloc (.cells #[.bool false,.slice none 0 0,.bool false,.slice none 0 0,.bool false] 74)).drew:=((Below.refl _ _).alloc (Nat.le_refl _) _).drew;have a0:(V1.alloc (.cells #[.bool false,.slice none 0 0,.bool false,.slice none 0 0,.bool false] 74)).drew.cell? ⟨g6,0,none⟩=some (.slice B h.parts.length b):=(h6.low hVA).c0;have a1:(V1.alloc (.cells #[.bool false,.slice none 0 0,.bool false,.slice none 0 0,.bool false] 74)).drew.cell? ⟨g6,1,none⟩=some (.bool h.rest):=(h6.low hVA).c1;have hq:=h1.below hVA h1.lt;obtain⟨b0,b1,b2,b3,b4⟩:=(⟨hq.cell 0,hq.cell 1,hq.cell 2,hq.cell 3,hq.cell 4⟩:(V1.alloc (.cells #[.bool false,.slice none 0 0,.bool false,.slice none 0 0,.bool false] 74)).drew.cell? ⟨g1,0,none⟩=some (.slice A l.parts.length a)∧(V1.alloc (.cells #[.bool false,.slice none 0 0,.bool false,.slice none 0 0,.bool false] 74)).drew.cell? ⟨g1,1,none⟩=some (.bool l.rest)∧(V1.alloc (.cells #[.bool false,.slice none 0 0,.bool false,.slice none 0 0,.bool false] 74)).drew.cell? ⟨g1,2,none⟩=some (.slice C r.parts.length c)∧(V1.alloc (.cells #[.bool false,.slice none 0 0,.bool false,.slice none 0 0,.bool false] 74)).drew.cell? ⟨g1,3,none⟩=some (.bool r.rest)∧(V1.alloc (.cells #[.bool false,.slice none 0 0,.bool false,.slice none 0 0,.bool false] 74)).drew.cell? ⟨g1,4,none⟩=some (.slice H n hc));clear hQ h1 h6 hl hh hr hn hsym hVA hq;refine wp_region_noPanic ?_
  go_region_law (first
    | (go_simp;go_at_call 28;refine (HLI.out _).mono ?_;rintro e w5 ⟨rfl,hX5⟩;have hS5:Below V1.heap.size V1 w5:=(by repeat (first | exact Below.refl _ _ | refine Below.drew ?_ | refine zck ?_ _):Below V1.heap.size V1 _).trans (hX5.mono (by simp));have z0:w5.cell? ⟨g6,0,none⟩=some (.slice B h.parts.length b):=(H6.out.low hS5).c0;have z1:w5.cell? ⟨g6,1,none⟩=some (.bool h.rest):=(H6.out.low hS5).c1;have z2:(w5.alloc (.cells #[.bool false,.slice none 0 0,.bool false,.slice none 0 0,.bool false] 74)).cell? ⟨g6,0,none⟩=some (.slice B h.parts.length b):=(H6.out.low (hS5.alloc hS5.size _)).c0;have z3:(w5.alloc (.cells #[.bool false,.slice none 0 0,.bool false,.slice none 0 0,.bool false] 74)).cell? ⟨g6,1,none⟩=some (.bool h.rest):=(H6.out.low (hS5.alloc hS5.size _)).c1)
    | (go_simp;go_at_call 62;refine (HNA.out _ (by repeat (first | exact hS5 | refine Below.drew ?_ | refine zck ?_ _))).mono ?_;rintro e w6 ⟨hX6,A',c',C',d',rfl,-,hin⟩;(try (have hblk:=Blk.below (z0l w5 [.bool false,.slice none 0 0,.bool false,.slice none 0 0,.bool false] 74) hX6 (by simp);have hge:V1.heap.size≤w5.heap.size:=hS5.size;have hS6:=z0r (hS5.alloc hS5.size _) hX6;have qq:=zdj hblk;obtain⟨⟨p0,p1,p2,p3,p4⟩,k0,k1,k2,k3,k4⟩:=qq));(try (have hblk:=zdk hX5 hX6;have hge:V1.heap.size≤V1.heap.size:=Nat.le_refl _;have hS6:=z0r hS5 hX6;have qq:=zdj hblk;obtain⟨⟨p0,p1,p2,p3,p4⟩,k0,k1,k2,k3,k4⟩:=qq))))
  all_goals refine NoPanic.normal ?_
  all_goals first
    | (have hq9:=rt_end hS6 hblk hge (.bool false) (.slice A' m.parts.length c') (.bool true) (.slice C' (zd0 l r m).parts.length d') (.bool true)
       obtain⟨e1,e2,e3⟩:=hq9;exact HQ.out _ _ _ _ _ _ _ _ _ A' C' c' d' _ e1 e2 e3 hge ⟨rt_end2 hblk hin.1,hin.2⟩)
    | (have hS6:=z0r hS5 hX6
       have hnew:=z0l w6 [.bool false,.slice A' m.parts.length c',.bool true,.slice C' (zd0 l r m).parts.length d',.bool true] 74;exact HQ.out _ _ _ _ _ _ _ _ _ A' C' c' d' _ (hS6.alloc hS6.size _) (hnew.cell 3) (hnew.cell 4) hS6.size (hin.below ((Below.refl _ _).alloc (Nat.le_refl _) _)))
end
