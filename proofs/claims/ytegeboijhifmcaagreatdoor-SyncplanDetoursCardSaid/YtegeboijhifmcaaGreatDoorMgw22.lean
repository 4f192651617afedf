/- A part of the proof. -/
import Derived.Test.YtegeboijhifmcaaGreatDoorMgw17
set_option linter.unusedVariables false
set_option linter.unusedSimpArgs false
set_option maxHeartbeats 4000000
set_option maxRecDepth 100000
namespace Go.Proofs.YtegeboijhifmcaaGreatDoor
open Go.Proofs.Tryz
open Go.RowKit
def zgn:ByteArray→Option Rev:=fun _=>none
theorem knOne (p:ByteArray)(g bl be bn:Nat)(Ae:Option Addr)(ce:Nat)(w:World)(hk:Chk w g (.slice none 0 0) (.slice none 0 0) 1 ⟨#[]⟩ ⟨#[]⟩ (.slice Ae 2 ce) (.slice none 0 0) bl be bn)(hL:z7r w bl zgn):
  Calls prog 166 #[.pointer (some ⟨g,0,none⟩),.agg #[.string p,.int .i64 1,.int .i64 1,.bool false,.bool false,.bool false,.int .u64 1,.int .i64 1,.int .i64 0,.string ⟨#[]⟩,.int .i64 0,.int .i64 0]] w fun e w'=>e=.returned (.int .i64 0)∧Below w.heap.size w w':=by
 have hbW:Below w.heap.size w (w.alloc (.cells #[.string p,.int .i64 1,.int .i64 1,.bool false,.bool false,.bool false,.int .u64 1,.int .i64 1,.int .i64 0,.string ⟨#[]⟩,.int .i64 0,.int .i64 0] 90)):=(Below.refl _ _).alloc (Nat.le_refl _) _;have HLV:Hid (Calls prog 204 #[.pointer (some ⟨g,0,none⟩),.string p] (w.alloc (.cells #[.string p,.int .i64 1,.int .i64 1,.bool false,.bool false,.bool false,.int .u64 1,.int .i64 1,.int .i64 0,.string ⟨#[]⟩,.int .i64 0,.int .i64 0] 90)) fun e w'=>e=.returned (.tuple #[.agg #[.string ⟨#[]⟩,.int .i64 0,.int .i64 0,.int .i64 0,.int .i64 0,.bool false,.bool false,.bool false,.int .u64 0,.int .i64 0,.string ⟨#[]⟩,.int .i64 0],.bool false])∧Below (w.alloc (.cells #[.string p,.int .i64 1,.int .i64 1,.bool false,.bool false,.bool false,.int .u64 1,.int .i64 1,.int .i64 0,.string ⟨#[]⟩,.int .i64 0,.int .i64 0] 90)).heap.size (w.alloc (.cells #[.string p,.int .i64 1,.int .i64 1,.bool false,.bool false,.bool false,.int .u64 1,.int .i64 1,.int .i64 0,.string ⟨#[]⟩,.int .i64 0,.int .i64 0] 90)) w'):=hd_ (ze2 zgn p g _ _ _ _ 1 _ _ bl be bn _ (Blk.below hk hbW (Blk.lt hk)) (z2f.below hL hbW));have HX0:=hd_ (z0l w [.string p,.int .i64 1,.int .i64 1,.bool false,.bool false,.bool false,.int .u64 1,.int .i64 1,.int .i64 0,.string ⟨#[]⟩,.int .i64 0,.int .i64 0] 90);have HFT:=hd_ (fun W=>z35 1 false false false W);have HIL:=hd_ (fun W=>z3f 1 W);have HB:=hd_ hbW;clear hk hL hbW;go_enter func166,ntmps166;go_wp2_with fail;refine HLV.out.mono ?_;rintro e w1 ⟨rfl,hb1⟩;dsimp only;have hX1:=(HX0.out.below hb1 HX0.out.lt).alloc (.cells #[.string ⟨#[]⟩,.int .i64 0,.int .i64 0,.int .i64 0,.int .i64 0,.bool false,.bool false,.bool false,.int .u64 0,.int .i64 0,.string ⟨#[]⟩,.int .i64 0] 66);obtain⟨c0,c1,c2,c3,c4,c5,c6,c7,c8,c9,c10,c11⟩:=z7z hX1;have hR:=z0l w1 [.string ⟨#[]⟩,.int .i64 0,.int .i64 0,.int .i64 0,.int .i64 0,.bool false,.bool false,.bool false,.int .u64 0,.int .i64 0,.string ⟨#[]⟩,.int .i64 0] 66;obtain⟨d0,d1,d2,d3,d4,d5,d6,d7,d8,d9,d10,d11⟩:=z7z hR
 have HBW:=hd_ (zcf (z0r HB.out hb1) (.cells #[.string ⟨#[]⟩,.int .i64 0,.int .i64 0,.int .i64 0,.int .i64 0,.bool false,.bool false,.bool false,.int .u64 0,.int .i64 0,.string ⟨#[]⟩,.int .i64 0] 66));have HX1:=hd_ hX1;have HR1:=hd_ hR;clear hb1 hX1 hR HLV HB HX0;go_upto_region 2 with fail;generalize w1.alloc (.cells #[.string ⟨#[]⟩,.int .i64 0,.int .i64 0,.int .i64 0,.int .i64 0,.bool false,.bool false,.bool false,.int .u64 0,.int .i64 0,.string ⟨#[]⟩,.int .i64 0] 66)=W1 at c0 c1 c2 c3 c4 c5 c6 c7 c8 c9 c10 c11 d0 d1 d2 d3 d4 d5 d6 d7 d8 d9 d10 d11 HBW HX1 HR1 ⊢;generalize w1.heap.size=g2 at d0 d1 d2 d3 d4 d5 d6 d7 d8 d9 d10 d11 HR1 ⊢;go_wp2_with fail;refine (HFT.out _).mono ?_;rintro e w5 ⟨rfl,hb5⟩;have HB5:=hd_ (z0r HBW.out hb5);clear c0 c1 c2 c3 c4 c5 c6 c7 c8 c9 c10 c11 d0 d1 d2 d3 d4 d5 d6 d7 d8 d9 d10 d11;obtain⟨c0,c1,c2,c3,c4,c5,c6,c7,c8,c9,c10,c11⟩:=z7z (HX1.out.below hb5 HX1.out.lt);clear hb5;have q0:z2k 90 (z2j 1 false false)=0:=rfl;rw[q0];go_wp2_with fail;refine (HIL.out _).mono ?_;rintro e w6 ⟨rfl,rfl⟩;have q1:z2v 1=true:=rfl;rw[q1];go_wp2_with fail;go_ret;exact⟨rfl,HB5.out⟩
theorem knSize (g bl be bn:Nat)(Ae:Option Addr)(ce:Nat)(w:World)(hk:Chk w g (.slice none 0 0) (.slice none 0 0) 1 ⟨#[]⟩ ⟨#[]⟩ (.slice Ae 2 ce) (.slice none 0 0) bl be bn):Calls prog 113 #[.pointer (some ⟨g,0,none⟩)] w fun e w'=>e=.returned (.int .i64 0)∧Below w.heap.size w w':=by
 obtain⟨k0,k1,k2,k5,k6,-,-,-⟩:=z4a hk;have HK:=hd_ hk;clear hk;go_enter func113,ntmps113;go_upto_region 1 with fail;go_quiet (fail)
 go_wp2_with fail;refine wp_loop_rounds 1 ?_;rw[rounds_succ];go_wp2_with fail;go_ret;exact⟨rfl,below_drewN (Below.refl _ _) _⟩
theorem knRoom (g bl be bn:Nat)(Ae:Option Addr)(ce:Nat)(w:World)(hk:Chk w g (.slice none 0 0) (.slice none 0 0) 1 ⟨#[]⟩ ⟨#[]⟩ (.slice Ae 2 ce) (.slice none 0 0) bl be bn):Calls prog 117 #[.pointer (some ⟨g,0,none⟩)] w fun e w'=>e=.returned (.int .i64 0)∧Below w.heap.size w w':=by
 obtain⟨k0,k1,k2,k5,k6,-,-,-⟩:=z4a hk;clear hk;go_enter func117,ntmps117;go_upto_region 1 with fail;go_quiet (fail)
 go_wp2_with fail;go_ret;exact⟨rfl,below_drewN (Below.refl _ _) _⟩
theorem knRecs (g bl be bn:Nat)(Ae:Option Addr)(ce:Nat)(w:World)(hk:Chk w g (.slice none 0 0) (.slice none 0 0) 1 ⟨#[]⟩ ⟨#[]⟩ (.slice Ae 2 ce) (.slice none 0 0) bl be bn):Calls prog 116 #[.pointer (some ⟨g,0,none⟩)] w fun e w'=>e=.returned (.int .i64 0)∧Below w.heap.size w w':=by
 have hA:Below w.heap.size w (w.alloc (.map #[] 0)):=(Below.refl _ _).alloc (Nat.le_refl _) _;obtain⟨k0,k1,k2,k5,k6,-,-,-⟩:=z4a (Blk.below hk hA (Blk.lt hk));clear hk;have hmm:=@run_makeMap prog;go_enter func116,ntmps116;go_wp2_with fail;refine wp_loop_rounds 1 ?_;rw[rounds_succ];go_wp2_with fail;refine wp_loop_rounds 1 ?_;rw[rounds_succ];go_wp2_with fail;go_ret;exact⟨rfl,hA⟩
def knE (p:ByteArray):Edt:=⟨p,1,⟨1,false,false,false⟩,1,1,0,z2l,0,0⟩
def knA:ByteArray:=⟨#[47,47,100,47,97]⟩
def knB:ByteArray:=⟨#[47,47,100,47,98]⟩
def KnE (w:World)(Ae:Option Addr)(ce:Nat):Prop:=z47 w (.slice Ae 2 ce) [knE knA,knE knB]
def KnAt (w:World)(a:Addr)(p:ByteArray):Prop:=w.cell? a=some (.string p)∧w.cell? ⟨a.block,a.off+1,none⟩=some (.int .i64 1)∧w.cell? ⟨a.block,a.off+2,none⟩=some (.int .i64 1)∧w.cell? ⟨a.block,a.off+3,none⟩=some (.bool false)∧w.cell? ⟨a.block,a.off+4,none⟩=some (.bool false)∧w.cell? ⟨a.block,a.off+5,none⟩=some (.bool false)∧w.cell? ⟨a.block,a.off+6,none⟩=some (.int .u64 1)∧w.cell? ⟨a.block,a.off+7,none⟩=some (.int .i64 1)∧w.cell? ⟨a.block,a.off+8,none⟩=some (.int .i64 0)∧w.cell? ⟨a.block,a.off+9,none⟩=some (.string ⟨#[]⟩)∧w.cell? ⟨a.block,a.off+10,none⟩=some (.int .i64 0)∧w.cell? ⟨a.block,a.off+11,none⟩=some (.int .i64 0)
theorem KnE.at_ {w:World}{A:Option Addr}{c:Nat}(h:KnE w A c)(k:Nat)(hk:k<2):∃ ad p,A=some ad∧ad.block<w.heap.size∧KnAt w (ad.add (k * 12)) p∧(k=0→p=knA)∧(k=1→p=knB):=by
 obtain⟨ad,e,hb,hx⟩:=z47.at_ (l:=[knE knA,knE knB]) h (k:=k) hk;rcases (by omega:k=0∨k=1) with rfl | rfl
 ·exact⟨ad,knA,e,hb,hx,fun _=>rfl,(fun e=>by cases e)⟩
 ·exact⟨ad,knB,e,hb,hx,(fun e=>by cases e),fun _=>rfl⟩
theorem KnE.below {w w':World}{A:Option Addr}{c:Nat}(h:KnE w A c)(hb:Below w.heap.size w w'):KnE w' A c:=z47.below h hb
theorem knMoves (g bl be bn:Nat)(Ae:Option Addr)(ce:Nat)(w:World)(hk:Chk w g (.slice none 0 0) (.slice none 0 0) 1 ⟨#[]⟩ ⟨#[]⟩ (.slice Ae 2 ce) (.slice none 0 0) bl be bn)(hE:KnE w Ae ce):Calls prog 115 #[.pointer (some ⟨g,0,none⟩)] w fun e w'=>e=.returned (.int .i64 0)∧Below w.heap.size w w':=by
 have HK:=hd_ (fun X (h:Below w.heap.size w X)=>z4a (Blk.below hk h (Blk.lt hk)));have HE:=hd_ (fun X (h:Below w.heap.size w X)=>KnE.below hE h);clear hk hE;have hA:Below w.heap.size w (w.alloc (.map #[] 0)):=(Below.refl _ _).alloc (Nat.le_refl _) _;obtain⟨-,-,-,k5,-,-,-,-⟩:=HK.out _ hA;have hmm:=@run_makeMap prog;go_enter func115,ntmps115;go_wp2_with fail;clear hmm k5;generalize w.alloc (.map #[] 0)=W1 at hA ⊢;go_loopw [15] (fun i wr=>∃ k:Nat,i=.int .i64 k∧k≤2∧Below w.heap.size w wr) (fun i _=>2 - (intOf i).toNat)
 case atStart=>exact⟨0,rfl,by omega,hA⟩
 case round =>
  obtain⟨k,rfl,hk,hb⟩:=hrel;by_cases hlt:k<2
  ·obtain⟨ad,p,rfl,hab,⟨x0,x1,x2,x3,x4,x5,x6,x7,x8,x9,x10,x11⟩,-,-⟩:=(HE.out wr hb).at_ k hlt;have hb2:=zcf hb (.cells #[.string p,.int .i64 1,.int .i64 1,.bool false,.bool false,.bool false,.int .u64 1,.int .i64 1,.int .i64 0,.string ⟨#[]⟩,.int .i64 0,.int .i64 0] 90);have q:decide ((k:Int)<2)=true:=by simp;omega
   go_wp2_with fail;go_roundw
   case rel=>exact⟨k+1,by go_num,by omega,hb2⟩
   case measure=>simp [intOf];omega
  ·have hk2:k=2:=by omega
   subst hk2;obtain⟨-,-,-,k5,-,-,-,-⟩:=HK.out _ hb;go_wp2_with fail;clear k5;go_loopw [34] (fun i wr=>∃ k:Nat,i=.int .i64 k∧k≤2∧Below w.heap.size w wr) (fun i _=>2 - (intOf i).toNat)
   case atStart=>exact⟨0,rfl,by omega,hb⟩
   case round =>
    obtain⟨k,rfl,hk,hb⟩:=hrel;by_cases hlt:k<2
    ·obtain⟨ad,p,rfl,hab,⟨x0,x1,x2,x3,x4,x5,x6,x7,x8,x9,x10,x11⟩,-,-⟩:=(HE.out wr hb).at_ k hlt;have hb2:=zcf hb (.cells #[.string p,.int .i64 1,.int .i64 1,.bool false,.bool false,.bool false,.int .u64 1,.int .i64 1,.int .i64 0,.string ⟨#[]⟩,.int .i64 0,.int .i64 0] 90);have q:decide ((k:Int)<2)=true:=by simp;omega
     go_wp2_with fail;go_roundw
     case rel=>exact⟨k+1,by go_num,by omega,hb2⟩
     case measure=>simp [intOf];omega
    ·have hk2:k=2:=by omega
     subst hk2;go_wp2_with fail;go_ret;exact⟨rfl,hb⟩
def zh8:List (List UInt8)→List (List UInt8)→Int
 | [],[]=>0
 | [],_ :: _=>-1
 | _ :: _,[]=>1
 | a :: l,b :: m=>if Lib.compareBytes a b=0 then zh8 l m else Lib.compareBytes a b
def zh9:List (List UInt8)→List UInt8
 | []=>[]
 | p :: ps=>47 :: p++zh9 ps
theorem zha (p:List UInt8)(ps:List (List UInt8)):47 :: Lib.join (p :: ps) [47]=zh9 (p :: ps):=by
 induction ps generalizing p with
 | nil=>simp [Lib.join_one,zh9]
 | cons q ps ih =>
  rw[z1h p (q :: ps) (by simp),zh9,← ih q]
  simp
def zhb (l:List UInt8):Prop:=l=[]∨∃ r,l=47 :: r
theorem zhc (ps:List (List UInt8)):zhb (zh9 ps):=by
 cases ps with
 | nil=>exact .inl rfl
 | cons p ps=>exact .inr ⟨p++zh9 ps,by simp [zh9]⟩
theorem zhd:∀(p q X Y:List UInt8),(47:UInt8)∉p→(47:UInt8)∉q→zhb X→zhb Y→z2t (p++X) (q++Y)=if Lib.compareBytes p q=0 then z2t X Y else Lib.compareBytes p q
 | [],[],X,Y,_,_,_,_=>by simp [Lib.compareBytes]
 | [],b :: q,X,Y,_,hq,hX,_=>by
  have hb:b≠47:=fun e=>hq (by rw[e];exact List.mem_cons_self ..)
  rcases hX with rfl | ⟨r,rfl⟩
  ·simp [Lib.compareBytes,z2t]
  ·simp [Lib.compareBytes,z2t]
   exact fun e=>absurd e.symm hb
 | a :: p,[],X,Y,hp,_,_,hY=>by
  have ha:a≠47:=fun e=>hp (by rw[e];exact List.mem_cons_self ..)
  rcases hY with rfl | ⟨r,rfl⟩
  ·simp [Lib.compareBytes,z2t]
  ·simp [Lib.compareBytes,z2t,ha]
 | a :: p,b :: q,X,Y,hp,hq,hX,hY=>by
  have ha:a≠47:=fun e=>hp (by rw[e];exact List.mem_cons_self ..)
  have hb:b≠47:=fun e=>hq (by rw[e];exact List.mem_cons_self ..)
  have ih:=zhd p q X Y (fun h=>hp (List.mem_cons_of_mem _ h)) (fun h=>hq (List.mem_cons_of_mem _ h)) hX hY;rw[List.cons_append,List.cons_append,z2t,Lib.compareBytes];by_cases e:a=b
  ·subst e;have hlt:¬ a<a:=by rw[UInt8.lt_iff_toNat_lt];omega
   rw[if_pos rfl,if_neg hlt,if_neg hlt];exact ih
  ·rw[if_neg e,if_neg ha,if_neg hb];by_cases hl:a<b
   ·rw[if_pos hl,if_pos hl];simp
   ·have hg:b<a:=by
     have:a.toNat≠b.toNat:=fun h=>e (UInt8.toNat_inj.1 h);rw[UInt8.lt_iff_toNat_lt] at hl ⊢;omega
    rw[if_neg hl,if_neg hl,if_pos hg];simp
theorem zhe:∀(ps qs:List (List UInt8)),(∀ p∈ps,(47:UInt8)∉p)→(∀ q∈qs,(47:UInt8)∉q)→z2t (zh9 ps) (zh9 qs)=zh8 ps qs
 | [],[],_,_=>rfl
 | [],q :: qs,_,_=>by simp [zh9,z2t,zh8]
 | p :: ps,[],_,_=>by simp [zh9,z2t,zh8]
 | p :: ps,q :: qs,hp,hq=>by
  have ih:=zhe ps qs (fun x hx=>hp x (List.mem_cons_of_mem _ hx)) (fun x hx=>hq x (List.mem_cons_of_mem _ hx));rw[zh9,zh9,List.cons_append,List.cons_append,z2t,if_pos rfl,zhd p q _ _ (hp p (List.mem_cons_self ..)) (hq q (List.mem_cons_self ..)) (zhc _) (zhc _),zh8,ih]
theorem zhf {l:List UInt8}{least:Nat}{ps:List (List UInt8)}(h:z2q l least=some ps):l=47 :: zh9 ps∧∀ p∈ps,(47:UInt8)∉p:=by
 unfold z2q at h;split at h
 ·rename_i hc
  injection h with h
  subst h;have hp:=hc.1;have hl:l=47 :: 47 :: l.drop 2:=by
   match l,hp with
   | [],hp=>simp [Lib.hasPrefix] at hp
   | [a],hp=>simp [Lib.hasPrefix] at hp
   | a :: b :: r,hp =>
    simp [Lib.hasPrefix] at hp
    obtain⟨rfl,rfl⟩:=hp;rfl
  have hj:=z1i (l.drop 2);refine⟨?_,fun p hp=>(z1e hp).1⟩;cases hs:z1a (l.drop 2) with
  | nil=>exact absurd hs (z1b _)
  | cons p ps =>
   rw[← zha,← hs,hj];exact hl
 ·cases h
theorem zhg {a b:ByteArray}{ps qs:List (List UInt8)}(ha:z2q a.data.toList 2=some ps)(hb:z2q b.data.toList 2=some qs):z2u a b=zh8 ps qs:=by
 have va:z2s a=true:=by unfold z2s z2r;rw[ha];rfl
 have vb:z2s b=true:=by unfold z2s z2r;rw[hb];rfl
 obtain⟨a1,a2⟩:=zhf ha;obtain⟨b1,b2⟩:=zhf hb;rw[z5d va vb,a1,b1,z2t,if_pos rfl,zhe ps qs a2 b2]
theorem zov (x:Int):∃ r:Nat,r<18446744073709551616∧IntKind.u64.wrap x=r:=
 ⟨(x % 18446744073709551616).toNat,by omega,by simp [IntKind.wrap,IntKind.bits,IntKind.signed];omega⟩
theorem zow (a b:Int):∃ r:Nat,r<18446744073709551616∧∀ w,Calls prog 213 #[.int .u64 a,.int .u64 b] w fun e w'=>e=.returned (.int .u64 r)∧w'=w:=by
 obtain⟨s,hs,q0⟩:=zov (a+b);by_cases h:(2305843009213693951:Int)≤s
 ·have q1:decide ((2305843009213693951:Int)≤s)=true:=by simpa using h
  obtain⟨x,hx,q2⟩:=zov ((s:Int) - 2305843009213693951);clear h;by_cases h:(2305843009213693951:Int)≤x
  ·have q3:decide ((2305843009213693951:Int)≤x)=true:=by simpa using h
   obtain⟨y,hy,q4⟩:=zov ((x:Int) - 2305843009213693951);clear h;refine⟨y,hy,fun w=>?_⟩;go_enter func213,ntmps213;go_wp2_with fail;go_ret;exact⟨rfl,rfl⟩
  ·have q3:decide ((2305843009213693951:Int)≤x)=false:=by simpa using h
   clear h;refine⟨x,hx,fun w=>?_⟩;go_enter func213,ntmps213;go_wp2_with fail;go_ret;exact⟨rfl,rfl⟩
 ·have q1:decide ((2305843009213693951:Int)≤s)=false:=by simpa using h
  clear h;refine⟨s,hs,fun w=>?_⟩;go_enter func213,ntmps213;go_wp2_with fail;go_ret;exact⟨rfl,rfl⟩
theorem rMul_ex (a b:Nat)(ha:a<18446744073709551616)(hb:b<18446744073709551616):∃ r:Nat,r<18446744073709551616∧∀ w,Calls prog 214 #[.int .u64 a,.int .u64 b] w fun e w'=>e=.returned (.int .u64 r)∧w'=w:=by
 have HM:=hd_ (fun w=>Tryz.bits_Mul64 a b ha hb w);generalize a * b / 18446744073709551616=hi at HM;generalize a * b % 18446744073709551616=lo at HM;obtain⟨r,hr,hP⟩:=zow (bits .and .u64 lo 2305843009213693951) (bits .or .u64 (IntKind.u64.wrap (hi * 8)) (lo / 2305843009213693952));have HP:=hd_ hP;clear hP;refine⟨r,hr,fun w=>?_⟩;go_enter func214,ntmps214;go_wp2_with fail;refine (HM.out _).mono ?_;rintro e w' ⟨rfl,rfl⟩;dsimp only;go_wp2_with fail;refine (HP.out _).mono ?_;rintro e w' ⟨rfl,rfl⟩;dsimp only;go_wp2_with fail;go_ret;exact⟨rfl,rfl⟩
theorem zox (l:List UInt8)(v:Value)(w:World)(hb:Bytes w v l):
  Calls prog 180 #[v] w fun e w'=>(∃ r:Nat,r<18446744073709551616∧e=.returned (.int .u64 r))∧Below w.heap.size w w':=by
 obtain⟨A,c,rfl,hcc,hmm,-⟩:=id hb;have HB:=hd_ hb;unfold maxLen at hmm;clear hb;go_enter func180,ntmps180;go_wp2_with fail;go_loopw [3,4] (fun u i wr=>∃ k s:Nat,i=.int .i64 k∧u=.int .u64 s∧k≤l.length∧Hid (s<18446744073709551616∧Below w.heap.size w wr)) (fun _ i _=>l.length - (intOf i).toNat)
 case atStart=>exact⟨0,0,rfl,rfl,Nat.zero_le _,hd_ ⟨by decide,Below.refl _ _⟩⟩
 case round =>
  obtain⟨k,s,rfl,rfl,hk,HI⟩:=hrel;by_cases hlt:k<l.length
  ·obtain⟨ad,rfl,hab,x0⟩:=Bytes.at_ (HB.out.below HI.out.2) hlt;generalize l[k].toNat=xn at x0;obtain⟨m,hm,hM⟩:=rMul_ex s 747382712868975713 HI.out.1 (by decide)
   obtain⟨x1,hx1,q1⟩:=zov xn;obtain⟨x2,hx2,q2⟩:=zov ((x1:Int)+1);obtain⟨r,hr,hP⟩:=zow m x2;have HM:=hd_ hM;have HP:=hd_ hP;have HRR:=hd_ hr;have hzk:(k:Int)<(l.length:Int):=by omega
   have HLT:=hd_ hlt;clear hM hP hr hm hx1 hx2 hab hlt;go_upto_region 5 with fail;go_quiet ((first | (go_at_call 214;exact Calls.quiet_of_same (HM.out _)) | (go_at_call 213;exact Calls.quiet_of_same (HP.out _))))
   clear q1 q2 x0;go_wp2_with fail;go_roundw
   case rel=>exact⟨k+1,r,by go_num,rfl,by have:=HLT.out;omega,hd_ ⟨HRR.out,z0p HI.out.2 _⟩⟩
   case measure=>have:=HLT.out;simp [intOf];omega
  ·have hge:¬((k:Int)<(l.length:Int)):=by omega
   have HF:=hd_ HI.out;clear HI;go_wp2_with fail;go_ret;exact⟨⟨s,HF.out.1,rfl⟩,HF.out.2⟩
theorem rOf_any (l:List UInt8)(v:Value)(w:World)(hb:Bytes w v l):
  Calls prog 132 #[v] w fun e w'=>(∃ r:Nat,e=.returned (.agg #[.int .u64 r,.int .i64 l.length]))∧Below w.heap.size w w':=by
 obtain⟨A,c,rfl,hcc,hmm,-⟩:=id hb;have hB:=z0l w [.int .u64 0,.int .i64 0] 64;have hA:Below w.heap.size w (w.alloc (.cells #[.int .u64 0,.int .i64 0] 64)):=(Below.refl _ _).alloc (Nat.le_refl _) _;have HS:=hd_ (zox l (.slice A l.length c) _ (Row.below hb hA));have HA:=hd_ hA;have HB:=hd_ hB;clear hb hA hB;unfold maxLen at hmm;go_enter func132,ntmps132;go_upto_region 1 with fail;generalize w.alloc (.cells #[.int .u64 0,.int .i64 0] 64)=W at HS HB HA ⊢;go_wp2_with fail;refine HS.out.mono ?_;rintro e w2 ⟨⟨r,hr,rfl⟩,hb⟩;dsimp only;have HX:=hd_ (HB.out.below hb HB.out.lt);have HA2:=hd_ (z0r HA.out hb);clear hb HS hr;have c0:w2.cell? ⟨w.heap.size,0,none⟩=some (.int .u64 0):=HX.out.cell 0;have c1:w2.cell? ⟨w.heap.size,1,none⟩=some (.int .i64 0):=HX.out.cell 1;have f0:w2.frozen? ⟨w.heap.size,0,none⟩=false:=HX.out.frozen 0;have f1:w2.frozen? ⟨w.heap.size,1,none⟩=false:=HX.out.frozen 1;have HR:=hd_ ((HX.out.set_ 0 (.int .u64 (r:Int))).set_ 1 (.int .i64 (l.length:Int)));have HA3:=hd_ ((HA2.out.setCell (p:=⟨w.heap.size,0,none⟩) (Nat.le_refl _) (.int .u64 (r:Int))).setCell (p:=⟨w.heap.size,1,none⟩) (Nat.le_refl _) (.int .i64 (l.length:Int)));go_wp2_with fail;have r0:=HR.out.cell 0;have r1:=HR.out.cell 1;exact bodyPost_ret (v:=.agg #[.int .u64 (r:Int),.int .i64 (l.length:Int)]) (by simp at r0 r1;simp [results,results132,go_sem,r0,r1]) rfl ⟨⟨r,rfl⟩,HA3.out⟩
end Go.Proofs.YtegeboijhifmcaaGreatDoor
