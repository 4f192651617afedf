/- A part of the proof. -/
import Derived.Test.YtegeboijhifmcaaGreatDoorMgw32
import Derived.Test.YtegeboijhifmcaaGreatDoorMgw38
import Derived.ShutString
import Derived.ChangeOld
import Derived.Deep.Slices
import Derived.Deep.Fields
import Derived.ChangeSlices
set_option linter.unusedVariables false
set_option linter.unusedSimpArgs false
set_option maxHeartbeats 16000000
set_option maxRecDepth 100000
namespace Go.Proofs.YtegeboijhifmcaaGreatDoor
open Go.Proofs.Tryz
open Go.RowKit
theorem knGrow (w:World):Calls prog 118 #[.slice none 0 0,.int .i64 0] w fun e w'=>e=.returned (.slice none 0 0)∧w=w':=by
 go_enter func118,ntmps118;go_wp2_with fail;go_ret;exact⟨rfl,rfl⟩
theorem zii (g:Nat)(w:World)(hB:Blk w g 24 [.slice none 0 0,.slice none 0 0]):Calls prog 75 #[.slice (some ⟨g,0,none⟩) 2 2] w fun e w'=>∃ A c,e=.returned (.slice A 0 c)∧Below w.heap.size w w':=by
 have b0:w.cell? ⟨g,0,none⟩=some (.slice none 0 0):=hB.cell 0;have b1:w.cell? ⟨g,1,none⟩=some (.slice none 0 0):=hB.cell 1;have HB:=hd_ hB;have HG:=hd_ (knGrow w);clear hB;go_enter func75,ntmps75;go_wp2_with fail;refine wp_loop_rounds 3 ?_;rw[rounds_succ];go_wp2_with fail;rw[rounds_succ];go_wp2_with fail;rw[rounds_succ];go_wp2_with fail;refine HG.out.mono ?_;rintro e w1 ⟨rfl,rfl⟩;go_wp2_with fail;refine wp_loop_rounds 3 ?_;rw[rounds_succ];go_wp2_with (at_builtin;refine z0j (base:=w.heap.size) (n:=0) (xs:=[]) (m:=0) (news:=[]) rfl rfl zgu (World.ownsRow_nil _ _ _ _) rfl (z48.nil_ w) rfl (fun u h=>by cases h) (by omega) (by unfold maxLen;omega) (Nat.le_refl _) ?_;intro A' c' w2 hO2 hG2 hw2)
 have HO2:=hd_ hO2;have HB2:=hd_ (zie hG2 rfl);have b1:w2.cell? ⟨g,1,none⟩=some (.slice none 0 0):=(HB.out.below HB2.out HB.out.lt).cell 1;clear hO2 hG2 hw2 b0;rw[rounds_succ];go_wp2_with (at_builtin;refine z0j (base:=w.heap.size) (m:=0) (news:=[]) rfl rfl zgu HO2.out rfl (z48.nil_ w2) rfl (fun u h=>by cases h) (by omega) (by unfold maxLen;omega) HB2.out.size ?_;intro A3 c3 w3 hO3 hG3 hw3)
 have HB3:Hid (Below w.heap.size w w3):=hd_ (HB2.out.grown hG3 HB2.out.size (fun k e=>(HO2.out.lt k e).1));clear hO3 hG3 hw3;rw[rounds_succ];go_wp2_with fail;go_ret;exact⟨_,_,rfl,HB3.out⟩
theorem knSort (A:Option Addr)(c:Nat)(cv:Value)(w:World):Calls prog 77 #[.slice A 0 c,cv] w fun e w'=>e=.returned (.tuple #[])∧w=w':=by
 have H:=hd_ (z5w (.slice A 0 c) cv w);go_enter func77,ntmps77;go_wp2_with fail;refine H.out.mono ?_;rintro e w' ⟨rfl,rfl⟩;go_wp2_with fail;go_end0
 exact⟨rfl,rfl⟩
theorem knClone (w:World):Calls prog 74 #[.slice none 0 0] w fun e w'=>e=.returned (.slice none 0 0)∧w=w':=by
 go_enter func74,ntmps74;have heq:∀ W,(binOp .eql 23 (.slice none 0 0) (.slice none 0 0)).run prog W=.ok (.bool true) W:=fun W=>by kernel_rfl
 go_wp2_with fail;go_ret;exact⟨rfl,rfl⟩
structure KnW (w X:World)(g bl be bn:Nat)(Ae:Option Addr)(ce:Nat):Prop where
 bel:Below w.heap.size w X
 chk:Chk X g (.slice none 0 0) (.slice none 0 0) 1 ⟨#[]⟩ ⟨#[]⟩ (.slice Ae 2 ce) (.slice none 0 0) bl be bn
 last:z7r X bl zgn
 edt:∃ F,z7s X be F
 ne:bl≠be
 le:w.heap.size≤be
theorem knNew (Ae:Option Addr)(ce:Nat)(w:World):Calls prog 72 #[.agg #[.slice none 0 0,.slice none 0 0],.agg #[.int .i64 1,.string ⟨#[]⟩,.string ⟨#[]⟩,.slice Ae 2 ce,.slice none 0 0]] w fun e w'=>∃ g bl be bn,e=.returned (.pointer (some ⟨g,0,none⟩))∧KnW w w' g bl be bn Ae ce:=by
 have hmm:=@run_makeMap prog;go_enter func72,ntmps72;go_wp2_with fail;refine wp_loop_rounds 1 ?_;rw[rounds_succ];go_wp2_with fail;go_ret;refine⟨w.heap.size+1+1+1+1+1,w.heap.size+1+1,w.heap.size+1+1+1,w.heap.size+1+1+1+1,rfl,((((((Below.refl _ _).alloc (Nat.le_refl _) _).alloc (by simp) _).alloc (by simp;omega) _).alloc (by simp;omega) _).alloc (by simp;omega) _).alloc (by simp;omega) _,?_,?_,⟨fun _=>none,?_⟩,?_,?_⟩
 case refine_1=>
  have:=z0l (((((w.alloc (.cells #[.slice none 0 0,.slice none 0 0] 26)).alloc (.cells #[.int .i64 1,.string ⟨#[]⟩,.string ⟨#[]⟩,.slice Ae 2 ce,.slice none 0 0] 95)).alloc (.map #[] 0)).alloc (.map #[] 0)).alloc (.map #[] 0)) [.slice none 0 0,.slice none 0 0,.int .i64 1,.string ⟨#[]⟩,.string ⟨#[]⟩,.slice Ae 2 ce,.slice none 0 0,.map (some (w.heap.size+1+1)),.map (some (w.heap.size+1+1+1)),.map (some (w.heap.size+1+1+1+1))] 183;simp only[World.size_alloc] at this
  exact this
 case refine_2 =>
  have:=z2f.new Value.string Rev.val ((w.alloc (.cells #[.slice none 0 0,.slice none 0 0] 26)).alloc (.cells #[.int .i64 1,.string ⟨#[]⟩,.string ⟨#[]⟩,.slice Ae 2 ce,.slice none 0 0] 95));simp only[World.size_alloc] at this
  exact z2f.alloc (z2f.alloc (z2f.alloc this _) _) _
 case refine_3 =>
  have:=z2f.new Value.string Edt.val (((w.alloc (.cells #[.slice none 0 0,.slice none 0 0] 26)).alloc (.cells #[.int .i64 1,.string ⟨#[]⟩,.string ⟨#[]⟩,.slice Ae 2 ce,.slice none 0 0] 95)).alloc (.map #[] 0));simp only[World.size_alloc] at this
  exact z2f.alloc (z2f.alloc this _) _
 case refine_4=>omega
 case refine_5=>omega
theorem knSteps (g:Nat)(w:World):Calls prog 73 #[.pointer (some ⟨g,0,none⟩)] w fun e w'=>e=.returned (.slice (some ⟨w.heap.size,0,none⟩) 5 5)∧Below w.heap.size w w'∧Blk w' w.heap.size 141 [.func (.func 113) #[.pointer (some ⟨g,0,none⟩)] #[],.func (.func 114) #[.pointer (some ⟨g,0,none⟩)] #[],.func (.func 115) #[.pointer (some ⟨g,0,none⟩)] #[],.func (.func 116) #[.pointer (some ⟨g,0,none⟩)] #[],.func (.func 117) #[.pointer (some ⟨g,0,none⟩)] #[]]:=by
 go_enter func73,ntmps73;go_wp2_with fail;go_ret;exact⟨rfl,(Below.refl _ _).alloc (Nat.le_refl _) _,z0l w _ _⟩
theorem zij (p:ByteArray)(g bl be bn:Nat)(Ae:Option Addr)(ce:Nat)(w:World)(hk:Chk w g (.slice none 0 0) (.slice none 0 0) 1 ⟨#[]⟩ ⟨#[]⟩ (.slice Ae 2 ce) (.slice none 0 0) bl be bn)(hL:z7r w bl zgn):Calls prog 76 #[.pointer (some ⟨g,0,none⟩),.agg #[.string p,.int .i64 1,.int .i64 1,.bool false,.bool false,.bool false,.int .u64 1,.int .i64 1,.int .i64 0,.string ⟨#[]⟩,.int .i64 0,.int .i64 0]] w fun e w'=>e=.returned (.agg #[.string p,.int .i64 1,.int .i64 1,.int .i64 1,.int .i64 1,.bool false,.bool false,.bool false,.int .u64 1,.int .i64 1,.string ⟨#[]⟩,.int .i64 0])∧Below w.heap.size w w':=
 zht zgn (knE p) g _ _ _ _ 1 _ _ bl be bn w hk hL (Int.le_refl 0) (show (0:Int)≤1000000 by decide)
section
variable {u0 u1 u2 u3 u4 u5 u6 u7 u8 u9 gn gt gu gx gy gz gA gC gD gE gF gG gH gI gJ gK gL gM gN gO gP gQ gR gT gV gW gX gY gZ i6 i7 i8 ia ib ic ie ig ii ij ik il im io ip iq ir iu iv iw ix : Value}
theorem knR13 (ops:Array Oper)(hops:Tryz.f43.body.bind (zci 13)=some ops)(Q:Exit→Act→World→Prop)(g g10 ge n:Nat)(p:ByteArray)(v1 v2:Value)(xs:List Value)(V V1:World)
  (hR:WaR V V1 g10 v1 v2 n xs) (hB:Blk V1 ge 90 [.string p,.int .i64 1,.int .i64 1,.bool false,.bool false,.bool false,.int .u64 1,.int .i64 1,.int .i64 0,.string ⟨#[]⟩,.int .i64 0,.int .i64 0]) (hn:n≤100000)
  (hrev:∀ X,Below V1.heap.size V1 X→Calls prog 76 #[.pointer (some ⟨g,0,none⟩),.agg #[.string p,.int .i64 1,.int .i64 1,.bool false,.bool false,.bool false,.int .u64 1,.int .i64 1,.int .i64 0,.string ⟨#[]⟩,.int .i64 0,.int .i64 0]] X fun e w'=>e=.returned (.agg #[.string p,.int .i64 1,.int .i64 1,.int .i64 1,.int .i64 1,.bool false,.bool false,.bool false,.int .u64 1,.int .i64 1,.string ⟨#[]⟩,.int .i64 0])∧Below X.heap.size X w')
  (hQ:∀(eY eZ fa fd fe ff fg fh:Value) (v3:Value) (w':World),Hid (WaR V w' g10 v3 v2 (n+1) (xs++[.string p,.int .i64 1,.int .i64 1,.int .i64 1,.int .i64 1,.bool false,.bool false,.bool false,.int .u64 1,.int .i64 1,.string ⟨#[]⟩,.int .i64 0]))→Q .normal ⟨#[u0,u1,u2,u3,u4,u5,.pointer (some ⟨g,0,none⟩),u7,u8,u9,.pointer (some ⟨g10,0,none⟩),gt,.pointer (some ⟨ge,0,none⟩),gx,gy,gz,gA,gC,gD,gE,gF,gG,gH,gI,gJ,gK,gL,gM,gN,gO,gP,gQ,gR,gT,gV,gW,gX,gY,gZ,i6,i7,i8,ia,ib,ic,ie,ig,eY,eZ,fa,fd,fe,ff,fg,fh,ir,iu,iv,iw,ix],[]⟩ w'):
  (Code.region 13 ops true).wp prog Q ⟨#[u0,u1,u2,u3,u4,u5,.pointer (some ⟨g,0,none⟩),u7,u8,u9,.pointer (some ⟨g10,0,none⟩),gt,.pointer (some ⟨ge,0,none⟩),gx,gy,gz,gA,gC,gD,gE,gF,gG,gH,gI,gJ,gK,gL,gM,gN,gO,gP,gQ,gR,gT,gV,gW,gX,gY,gZ,i6,i7,i8,ia,ib,ic,ie,ig,ii,ij,ik,il,im,io,ip,iq,ir,iu,iv,iw,ix],[]⟩ V1:=by
 simp only[Tryz.f43,Option.bind_some,zci] at hops
 simp at hops
 subst hops;obtain⟨A1,c1,hv1⟩:=z0o hR.one;subst hv1;have HQ:=hd_ hQ;have HR:=hd_ hR;have HRV2:=hd_ hrev;have f0:V1.cell? ⟨g10,0,none⟩=some (.slice A1 n c1):=hR.box.cell 0;obtain⟨c0,c1',c2,c3,c4,c5,c6,c7,c8,c9,c10,c11⟩:=z7z hB;clear hQ hR hB hrev;refine wp_region_noPanic ?_;go_region_law (first
  | (refine zce rfl rfl zgt (z0n (z0n HR.out.one hS5) ((Below.refl _ _).alloc (Nat.le_refl _) _)) (by simp [Act.eval,Act.put]) (z0i w5 [.string p,.int .i64 1,.int .i64 1,.int .i64 1,.int .i64 1,.bool false,.bool false,.bool false,.int .u64 1,.int .i64 1,.string ⟨#[]⟩,.int .i64 0] _ 12 1 rfl (by decide) _ rfl) (by simp [Act.eval,Act.put]) (by simp [Value.oneCell']) (by omega) (by unfold maxLen;omega) (by have:=hS5.size;have:=HR.out.bel.size;simp;omega) ?_;intro A6 c6' w6 hO6 hG6 hw6;have hbx:=(HR.out.box.below (z0r hS5 ((Below.refl _ _).alloc (Nat.le_refl _) _)) HR.out.box.lt).grown hG6 (fun e=>HR.out.ne1 e.symm);obtain⟨b0,b1,g0,g1⟩:=box2 hbx)
  | (go_simp;go_at_call 76;refine (HRV2.out _ (Below.refl _ _).drew).mono ?_;rintro e w5 ⟨rfl,hX5⟩;have hS5:Below V1.heap.size V1 w5:=(Below.refl _ _).drew.trans hX5;have f5:w5.cell? ⟨g10,0,none⟩=some (.slice A1 n c1):=(HR.out.box.below hS5 HR.out.box.lt).cell 0;have f6:(w5.alloc (.cells #[.string p,.int .i64 1,.int .i64 1,.int .i64 1,.int .i64 1,.bool false,.bool false,.bool false,.int .u64 1,.int .i64 1,.string ⟨#[]⟩,.int .i64 0] 66)).cell? ⟨g10,0,none⟩=some (.slice A1 n c1):=(HR.out.box.below (hS5.alloc hS5.size _) HR.out.box.lt).cell 0)
  | fail)
 all_goals exact NoPanic.normal (HQ.out _ _ _ _ _ _ _ _ _ _ (HR.out.push (z0r hS5 ((Below.refl _ _).alloc (Nat.le_refl _) _)) hO6 hG6 hw6))
theorem knR9 (ops:Array Oper)(hops:Tryz.f43.body.bind (zci 9)=some ops)(Q:Exit→Act→World→Prop)(gd gc:Nat)(ev:Value)(V:World)
  (hD:Blk V gd 26 [.slice none 0 0,.slice none 0 0]) (hC:Blk V gc 95 [.int .i64 1,.string ⟨#[]⟩,.string ⟨#[]⟩,ev,.slice none 0 0])
  (hQ:∀(eH eI eJ eK eL eM eN eO eP eQ:Value) (g10:Nat) (v2:Value) (w':World),Hid (WaR V w' g10 (.slice none 0 0) v2 0 []∧∃ A c,v2=.slice A 0 c)→Q .normal ⟨#[u0,u1,.pointer (some ⟨gd,0,none⟩),.pointer (some ⟨gc,0,none⟩),u4,u5,u6,u7,u8,u9,.pointer (some ⟨g10,0,none⟩),gt,gu,gx,gy,gz,gA,gC,gD,gE,gF,gG,gH,gI,gJ,gK,gL,gM,gN,gO,eH,eI,eJ,eK,eL,eM,eN,eO,eP,eQ,i7,i8,ia,ib,ic,ie,ig,ii,ij,ik,il,im,io,ip,iq,ir,iu,iv,iw,ix],[]⟩ w'):
  (Code.region 9 ops true).wp prog Q ⟨#[u0,u1,.pointer (some ⟨gd,0,none⟩),.pointer (some ⟨gc,0,none⟩),u4,u5,u6,u7,u8,u9,gn,gt,gu,gx,gy,gz,gA,gC,gD,gE,gF,gG,gH,gI,gJ,gK,gL,gM,gN,gO,gP,gQ,gR,gT,gV,gW,gX,gY,gZ,i6,i7,i8,ia,ib,ic,ie,ig,ii,ij,ik,il,im,io,ip,iq,ir,iu,iv,iw,ix],[]⟩ V:=by
 simp only[Tryz.f43,Option.bind_some,zci] at hops
 simp at hops
 subst hops;have HQ:=hd_ hQ;have HC:Hid (∀ X,Below V.heap.size V X→X.cell? ⟨gd,0,none⟩=some (.slice none 0 0)∧X.cell? ⟨gd,1,none⟩=some (.slice none 0 0)∧X.cell? ⟨gc,4,none⟩=some (.slice none 0 0)):=hd_ fun X hX=>⟨(hD.below hX hD.lt).cell 0,(hD.below hX hD.lt).cell 1,(hC.below hX hC.lt).cell 4⟩;obtain⟨x0,x1,x2⟩:=HC.out V (Below.refl _ _);clear hQ hD hC;go_region_held3 (fun w'=>Below V.heap.size V w'∧w'.cell? ⟨gd,0,none⟩=some (.slice none 0 0)∧w'.cell? ⟨gd,1,none⟩=some (.slice none 0 0)∧w'.cell? ⟨gc,4,none⟩=some (.slice none 0 0))
  ((refine z3n ?_ (HC.out _);repeat (first | with_reducible assumption | with_reducible exact Below.refl _ _ | with_reducible refine Below.drew ?_ | with_reducible refine zcf ?_ _ | refine Below.setCell ?_ (by first | exact hS6.size | exact hle | (have:=hS6.size;simp;omega) | (simp;done)) _)))
  (first
   | (go_at_call 74;refine (knClone _).mono ?_;rintro e w5 ⟨rfl,rfl⟩)
   | (go_at_call 75;refine (zii _ _ (by first | exact z0l _ _ _ | exact Blk.drew' (z0l _ _ _) | exact Blk.alloc (z0l _ _ _) _ | exact Blk.alloc (Blk.drew' (z0l _ _ _)) _ | exact Blk.drew' (Blk.alloc (z0l _ _ _) _) | exact zch (by simp) | exact Blk.drew' (zch (by simp)))).mono ?_;rintro e w6 ⟨A6,c6,rfl,hX6⟩;have hS6:Below V.heap.size V w6:=(by repeat (first | exact Below.refl _ _ | refine Below.drew ?_ | refine zcf ?_ _):Below V.heap.size V _).trans (hX6.mono (by simp;try omega));(first | (have hblk:=Blk.below (g:=V.heap.size) (e:=26) (cs:=[.slice none 0 0,.slice none 0 0]) (by first | exact z0l V _ _ | exact Blk.drew' (z0l V _ _) | exact Blk.alloc (z0l V _ _) _ | exact Blk.alloc (Blk.drew' (z0l V _ _)) _ | exact Blk.drew' (Blk.alloc (z0l V _ _) _)) hX6 (by simp;try omega);have hle:V.heap.size≤V.heap.size:=Nat.le_refl _;obtain⟨r0,r1,f0,f1⟩:=box2 hblk) | (have hblk:=Blk.below (g:=V.heap.size+1) (e:=26) (cs:=[.slice none 0 0,.slice none 0 0]) (by first | exact zch (by simp) | exact Blk.drew' (zch (by simp))) hX6 (by simp;try omega);have hle:V.heap.size≤V.heap.size+1:=Nat.le_succ _;obtain⟨r0,r1,f0,f1⟩:=box2 hblk) | skip)))
 all_goals first
  | exact HQ.out _ _ _ _ _ _ _ _ _ _ _ _ _ ⟨⟨hS6.alloc hS6.size _,hS6.size,z0l w6 _ _,World.ownsRow_nil _ _ _ _,(fun e=>by cases e)⟩,A6,c6,rfl⟩
  | exact HQ.out _ _ _ _ _ _ _ _ _ _ _ _ _ ⟨⟨(hS6.setCell hle _).setCell hle _,hle,(hblk.set_ 0 _).set_ 1 _,World.ownsRow_nil _ _ _ _,(fun e=>by cases e)⟩,A6,c6,rfl⟩
end
open Go.Sort (grow)
theorem zkp.grownMap {w w':World}{B U b bS:Nat}{f:ByteArray→List Nat}(h:zkp w B U b f)(hg:w.grownBy w' (some bS))(hne:bS≠b)(hm:∃ es c,w.heap[bS]? = some (.map es c)):zkp w' B U b f:=by
 obtain⟨g,h1,h2,h3,h4,h5⟩:=h;obtain⟨es,cc,hm⟩:=hm;refine⟨g,h1.grown hg (fun e=>hne (by injection e with e;exact e.symm)),fun k=>(h2 k).kept hg ?_,h3,h4,h5⟩
 by_cases hb:(zkk g k).ownBlock=some bS
 ·exact absurd hm (fun hm=>zkn (h2 k) hb hm)
 ·exact .inr hb
theorem zl8 (hs:List Hav)(pl:List Syn)(Ah Ap:Option Addr)(ch g c B:Nat)(X:World)(hAp:0<pl.length→Ap=some ⟨g,0,none⟩)(hH:z4b X (.slice Ah hs.length ch) hs)(hO:zjv X B (.slice Ap pl.length c) pl)(hOk:zf0 hs)(hsrt:z6c pl)(hfrm:∀ x∈pl,x.frm=zk4 hs x.path)
  (hB:B≤g) (hg:g<X.heap.size) (hn:pl.length≤1000) (hhn:hs.length≤10000):
  Calls prog 38 #[.slice Ah hs.length ch,.slice Ap pl.length c] X fun e w'=>e=.returned (.tuple #[])∧zjv w' B (.slice Ap pl.length c) (zeg (blB hs pl) pl)∧Below B X w':=by
 have HO:=hd_ hO;have HH:=hd_ hH;have HOK:=hd_ hOk;have HSRT:=hd_ hsrt;have HFRM:=hd_ hfrm;have hmm:=@run_makeMap prog;have HI0:Hid (Bk1 X ((X.alloc (.map #[] 0)).alloc (.map #[] 0)) X.heap.size (X.heap.size+1) (stF pl 0) (zkq pl 0)):=hd_ (by
  refine⟨((Below.refl _ _).alloc (Nat.le_refl _) _).alloc (by simp) _,(z2f.new Value.string natV X).alloc _,?_,by omega,by omega⟩
  have:=zkp.new (X.alloc (.map #[] 0)) X.heap.size;have e:(X.alloc (.map #[] 0)).heap.size=X.heap.size+1:=by simp
  rw[e] at this;exact this.upTo (by simp))
 clear hO hH hOk hsrt hfrm;go_enter func38,ntmps38;go_upto_region 2 with fail;clear hmm;try simp only[World.size_alloc]
 generalize (X.alloc (.map #[] 0)).alloc (.map #[] 0)=W0 at HI0 ⊢;go_wp2_with fail;go_loopw [20] (fun i wr=>∃ k:Nat,i=.int .i64 k∧k≤pl.length∧Hid (Bk1 X wr X.heap.size (X.heap.size+1) (stF pl k) (zkq pl k))) (fun i _=>pl.length - (intOf i).toNat)
 case atStart=>exact⟨0,rfl,Nat.zero_le _,HI0⟩
 case round =>
  obtain⟨k,rfl,hk,HJ⟩:=hrel;clear HI0;by_cases hlt:k<pl.length
  ·have HLT:=hd_ hlt;obtain rfl:=hAp (by omega)
   obtain⟨⟨y0,y1,y2,y3,y4⟩,-⟩:=zjv.cell (z0n HO.out HJ.out.low) hlt;have HSF:=hd_ (zku hlt);have HCN:=hd_ (comF_no hlt);have HCY:=hd_ (zkr hlt);generalize pl[k]=x at y0 y1 y2 y3 y4 HSF HCN HCY;have hA:Below wr.heap.size wr (wr.alloc (.cells #[.int .i64 x.kind,.string x.path,.int .i64 x.num,.string x.frm,.string x.dst] 48)):=(Below.refl _ _).alloc (Nat.le_refl _) _;have hJ1:=HJ.out.under hA;obtain⟨w3,hup,hM3,hg3,hs3⟩:=z2f.update (w:=wr.alloc (.cells #[.int .i64 x.kind,.string x.path,.int .i64 x.num,.string x.frm,.string x.dst] 48)) hJ1.st (z2d underlying9) underlying122 x.path k;have hup2:(Instr.mapUpdate 122 (.map (some X.heap.size)) (.string x.path) (.int .i64 k)).run prog (wr.alloc (.cells #[.int .i64 x.kind,.string x.path,.int .i64 x.num,.string x.frm,.string x.dst] 48))=.ok () w3:=hup;have HX3:Hid (Blk w3 wr.heap.size 48 [.int .i64 x.kind,.string x.path,.int .i64 x.num,.string x.frm,.string x.dst]):=hd_ ((z0l wr [.int .i64 x.kind,.string x.path,.int .i64 x.num,.string x.frm,.string x.dst] 48).grown hg3 (fun e=>by injection e with e;have:=HJ.out.st.lt;omega))
   have HJ3:Hid (Bk1 X w3 X.heap.size (X.heap.size+1) (stF pl (k+1)) (zkq pl k)):=hd_
    ⟨hJ1.low.grown hg3 hJ1.low.size (fun y e=>by injection e with e;omega),by rw[HSF.out];exact hM3,by rw[hs3];exact hJ1.com.grownMap hg3 hJ1.ne (zko hJ1.st),hJ1.ne,hJ1.leC⟩
   have HSZ:=hd_ HJ3.out.low.size;have hxb:=z0l wr [.int .i64 x.kind,.string x.path,.int .i64 x.num,.string x.frm,.string x.dst] 48;obtain⟨z0,z1,z2,z3,z4⟩:=z3r (x:=x) hxb;have hls:(zkq pl k x.dst).length≤1000000:=Nat.le_trans (zks _ _ _) (by omega)
   have HLS:=hd_ hls;clear hA hJ1 hup hM3 hg3 hs3 hxb hls HJ;go_upto_region 6 with fail;clear hup2 y0 y1 y2 y3 y4 z0 z1 z2 z3 z4;generalize wr.heap.size=g7 at HX3 ⊢;obtain⟨z0,z1,z2,z3,z4⟩:=z3r (x:=x) HX3.out;by_cases hd:x.dst=z2l
   ·obtain⟨s1,s2⟩:=z3v hd;have HN:Hid (Bk1 X w3 X.heap.size (X.heap.size+1) (stF pl (k+1)) (zkq pl (k+1))):=hd_ (by rw[HCN.out hd];exact HJ3.out)
    clear hd;go_wp2_with fail;go_roundw
    case rel=>exact⟨k+1,by go_num,by have:=HLT.out;omega,HN⟩
    case measure=>have:=HLT.out;simp [intOf];omega
   ·obtain⟨s1,s2⟩:=z3w hd;have HCF:=hd_ (HCY.out hd);clear hd;go_upto_region 7 with fail;refine bkR7 _ (by kernel_rfl) _ X w3 g7 X.heap.size (X.heap.size+1) (stF pl (k+1)) (zkq pl k) x k HJ3.out HX3.out HLS.out HSZ.out ?_
    intro eJ eK eL eM eN eO eP eQ eR eS w4 HN;rw[← HCF.out] at HN;go_wp2_with fail;go_roundw
    case rel=>exact⟨k+1,by go_num,by have:=HLT.out;omega,HN⟩
    case measure=>have:=HLT.out;simp [intOf];omega
  ·have hke:k=pl.length:=by omega
   subst hke;have HT:=hd_ (fun(T:Code) hT=>bkT9 T hT (fun e w'=>e=.returned (.tuple #[])∧zjv w' B (.slice Ap pl.length c) (zeg (blB hs pl) pl)∧Below B X w') X wr B g c X.heap.size (X.heap.size+1) hs pl Ah Ap ch hAp HJ.out (z0n HO.out HJ.out.low) (HJ.out.low.mono (by omega)) (Row.below HH.out HJ.out.low) HOK.out HSRT.out HFRM.out hB hg hn hhn (fun w' h1 h2=>⟨rfl,h1,h2⟩))
   clear HJ;rename ∀ a w,Code.wp _ (Code.seq (Code.region 9 _ _) _) _ a w→_=>hk7
   have HK7:=hd_ hk7;clear hk7;go_wp2_with fail;exact HK7.out _ _ (HT.out _ (by kernel_rfl) _ _ _ _ _ _ _ _ _ _ _ _ _ _ _ _ _ _ _ _ _ _ _ _ _ _ _ _ _ _ _ _ _ _ _ _ _ _ _ _ _ _ _ _ _ _ _ _ _ _ _ _ _ _ _ _ _ _ _ _ _ _ _ _ _ _ _ _ _ _ _ _ _ _ _ _ _ _ _ _ _ _ _ _ _ _ _ _ _ _ _ _ _ _ _ _ _ _ _ _ _ _ _ _ _ _ _ _ _ _ _ _ _ _ _ _ _ _ _ _ _ _ _)
theorem zld (D:List Rev)(es:List zd8)(m:Int)(hs:List Hav)(op dt:List ByteArray)(dv dr mv hv ov tv:Value)(w:World)(he:Env w)(hR:z45 w dv D)(hE:zdi w mv es)(hl:D.length≤1000000)(h6:∀ r∈D,r.path∈zff)(hS:zfs es)(hnum:∀ r∈D,1≤r.num)(hf:zfi (zdt es))
  (hH:z4b w hv hs) (hOk:zf0 hs) (hhl:hs.length≤100) (hop:Strs w ov op) (hdt:Strs w tv dt) (hopl:op.length≤1000) (hdtl:dt.length≤1000):
  Calls prog 12 #[.agg #[dv,dr],mv,.int .i64 m,hv,ov,tv] w (zl9 w (zf9 hs (zfk D (zdt es) m) op dt)):=by
 obtain⟨Ah,ch,rfl,-⟩:=id hH;obtain⟨Ao,co,rfl,-⟩:=id hop;obtain⟨At,ct,rfl,-⟩:=id hdt;obtain⟨Ad,cd,rfl,-⟩:=id hR;have hwok:=zfn (m:=m) hnum hf;have hwl:(zfk D (zdt es) m).length≤6:=zfp;have HWN:=hd_ (fun X (hX:Below w.heap.size w X)=>zg0 D es m (.slice Ad D.length cd) dr mv X (he.below hX) (hR.below hX) (hE.below hX) hl h6 hS);generalize zfk D (zdt es) m=ws at *;have hhe:z4g hs=0:=zf5.2 ⟨hOk,by omega⟩
 have HHC:Hid (∀ X,Below w.heap.size w X→Calls prog 20 #[.slice Ah hs.length ch] X fun e w'=>e=.returned (.int .i64 0)∧Below X.heap.size X w'):=hd_ fun X hX=>by
  have:=z4o hs (.slice Ah hs.length ch) X (Row.below hH hX) (fun x hx=>by have:=zlc hOk x hx;omega)
  rw[hhe] at this;exact this
 have HH:=hd_ hH;have HOP:=hd_ hop;have HDT:=hd_ hdt;have HOK:=hd_ hOk;have HWOK:=hd_ hwok;obtain⟨d0,d1⟩:=(⟨(z0l w [.slice Ad D.length cd,dr] 26).cell 0,(z0l w [.slice Ad D.length cd,dr] 26).cell 1⟩:(w.alloc (.cells #[.slice Ad D.length cd,dr] 26)).cell? ⟨w.heap.size,0,none⟩=some (.slice Ad D.length cd)∧(w.alloc (.cells #[.slice Ad D.length cd,dr] 26)).cell? ⟨w.heap.size,1,none⟩=some dr);have hA:Below w.heap.size w (w.alloc (.cells #[.slice Ad D.length cd,dr] 26)):=(Below.refl _ _).alloc (Nat.le_refl _) _;have HA:=hd_ hA;clear he hR hE hl h6 hS hnum hf hH hOk hop hdt hwok hhe hA;go_enter func12,ntmps12;go_wp2_with fail;refine (HWN.out _ HA.out).mono ?_;rintro e w1 ⟨wv,rfl,hwv,hb1⟩;dsimp only;have HB1:=hd_ (z0r HA.out hb1);obtain⟨Aw,cw,rfl,-⟩:=id hwv;have HWV:=hd_ hwv;clear hb1 hwv d0 d1 HWN;go_wp2_with fail;refine (HHC.out _ HB1.out).mono ?_;rintro e w2 ⟨rfl,hb2⟩;dsimp only;have HB2:=hd_ (z0r HB1.out hb2);have HDF:=hd_ (ziw hs ws (.slice Ah hs.length ch) (.slice Aw ws.length cw) w2 (Row.below HH.out HB2.out) (Row.below HWV.out hb2) (fun x hx=>by have:=zlc HOK.out x hx;omega) (fun x hx=>by have:=zlc HWOK.out x hx;omega) (by omega))
 clear hb2 HHC;go_wp2_with fail;refine HDF.out.mono ?_;rintro e w3 ⟨pv,rfl,ho3,hb3⟩;dsimp only;have hps:(z6h (hs.length+ws.length) hs ws).map (zf7 op dt)=zf8 hs ws op dt:=rfl;have hpl:=zla (hs.length+ws.length) hs ws;generalize z6h (hs.length+ws.length) hs ws=ps at ho3 hps hpl;obtain⟨Ap,cp,rfl⟩:=z0o ho3;have HAP:Hid ((Ap=none∧ps.length=0)∨∃ g,w2.heap.size≤g∧g<w3.heap.size∧Ap=some ⟨g,0,none⟩):=hd_ (by
  rcases ho3.2 with⟨e1,e2⟩ | ⟨g,cap,cur,e1,e2,e3,-⟩
  ·injection e1 with e1
   exact .inl ⟨e1,e2⟩
  ·injection e1 with e1
   exact .inr ⟨g,e2,(Array.getElem?_eq_some_iff.1 e3).1,e1⟩)
 have HB3:=hd_ (z0r HB2.out hb3);have HO3:=hd_ ho3;have HPS:=hd_ hps;have HBX:=hd_ hb3;have HS1:=hd_ (zjz op (.slice Ao op.length co) w3 (HOP.out.below HB3.out) (by omega))
 clear ho3 hb3 hps HDF;go_upto_region 7 with fail;rename ∀ a w,Code.wp _ (Code.seq (Code.seq (Code.region 8 _ _) _) _) _ a w→_=>hk7
 have HK7:=hd_ hk7;clear hk7;go_wp2_with fail;refine HS1.out.mono ?_;rintro e w4 ⟨rfl,hs4,hb4⟩;dsimp only;have HB4:=hd_ (z0r HB3.out hb4);have HS4:=hd_ hs4;have HBX4:=hd_ hb4;have HS2:=hd_ (zjz dt (.slice At dt.length ct) w4 (HDT.out.below HB4.out) (by omega))
 clear hs4 hb4 HS1;go_wp2_with fail;refine HS2.out.mono ?_;rintro e w5 ⟨rfl,hs5,hb5⟩;dsimp only;go_wp2_with fail;have hB:w.heap.size≤w2.heap.size:=HB2.out.size;have hl3:w3.heap.size<w4.heap.size:=HS4.out.lt;have hl4:w4.heap.size<w5.heap.size:=hs5.lt;have hl23:w2.heap.size≤w3.heap.size:=HBX.out.size;have hB5:Below w.heap.size w w5:=z0r HB4.out hb5;have hO5:zjv w5 w2.heap.size (.slice Ap ps.length cp) ps:=z0n (z0n HO3.out HBX4.out) hb5;obtain⟨g8,h81,h82,h83,h84⟩:∃ g,w3.heap.size≠g∧w4.heap.size≠g∧w2.heap.size≤g∧(0<ps.length→Ap=some ⟨g,0,none⟩):=by
  rcases HAP.out with⟨-,e⟩ | ⟨g,e1,e2,e3⟩
  ·exact⟨w5.heap.size,by omega,by omega,by omega,fun h=>by omega⟩
  ·exact⟨g,by omega,by omega,e1,fun _=>e3⟩
 obtain⟨gB,hb1,hb2,hb3⟩:∃ g,w2.heap.size≤g∧g<w5.heap.size∧(0<ps.length→Ap=some ⟨g,0,none⟩):=by
  rcases HAP.out with⟨-,e⟩ | ⟨g,e1,e2,e3⟩
  ·exact⟨w2.heap.size,Nat.le_refl _,by omega,fun h=>by omega⟩
  ·exact⟨g,e1,by omega,fun _=>e3⟩
 have hH2:∀ X,Below w2.heap.size w5 X→Below w.heap.size w X:=fun X hX=>hB5.trans (hX.mono hB);have hpz:∀ x∈zeg (blB hs (ps.map (zf7 op dt))) (ps.map (zf7 op dt)),x.path.size≤1000000:=fun x hx=>by
  obtain⟨y,hy,rfl⟩:=List.mem_map.1 hx;rw[zeh];rw[HPS.out] at hy;obtain⟨z,hz,rfl⟩:=List.mem_map.1 hy;rcases z6j _ _ _ z hz with⟨h,h1,h2⟩ | ⟨h,h1,h2⟩
  ·have:=(zlc HOK.out h h1).1;show z.path.size≤_
   rw[← h2];omega
  ·have:=(zlc HWOK.out h h1).1;show z.path.size≤_
   rw[← h2];omega
 have hsp:=(zfc (op:=op) (dt:=dt) HOK.out HWOK.out).1;have hfr:=zlb (op:=op) (dt:=dt) HOK.out HWOK.out;rw[← HPS.out] at hsp hfr;have hlm:(ps.map (zf7 op dt)).length=ps.length:=List.length_map _;refine HK7.out _ _ (plT8 _ (by kernel_rfl) _ w5 w2.heap.size w3.heap.size w4.heap.size g8 cp Ap ps op dt h84 ⟨by rw[List.take_zero,List.drop_zero];exact hO5,z2f.below HS4.out hb5,hs5,Below.refl _ _⟩ h81 h82 h83 (by omega) (by omega) hs (z4y hs (zeg (blB hs (ps.map (zf7 op dt))) (ps.map (zf7 op dt)))) Ah ch (zeg (blB hs (ps.map (zf7 op dt))) (ps.map (zf7 op dt))) (fun X hX hO=>?_) (fun X hX hO=>?_) (fun h X hX=>?_) (fun h X hX hO=>?_) _ _ _ _ _ _ _ _ _ _ _ _ _ _ _ _ _ _ _ _ _ _ _ _ _ _ _ _ _ _ _ _ _ _ _ _ _ _ _ _ _ _ _ _ _ _ _ _ _ _ _ _ _ _ _ _ _ _ _ _ _ _ _ _ _ _ _ _ _ _ _ _ _ _ _ _ _ _ _ _ _ _ _ _ _ _ _ _ _ _ _ _ _)
 ·have hbk:=zl8 hs (ps.map (zf7 op dt)) Ah Ap ch gB cp w2.heap.size X (fun h=>hb3 (by rw[hlm] at h;exact h)) (Row.below HH.out (hH2 X hX)) (by rw[hlm];exact hO) HOK.out hsp hfr hb1 (by have:=hX.size;omega) (by rw[hlm];omega) (by omega)
  rw[hlm] at hbk;exact hbk
 ·have hS:z4z X (.slice Ap ps.length cp) (zeg (blB hs (ps.map (zf7 op dt))) (ps.map (zf7 op dt))):=Row.of_own hO;exact zjl hs _ _ _ X (Row.below HH.out (hH2 X hX)) hS (fun x hx=>by have:=(zlc HOK.out x hx).1;omega) hpz (by rw[zl2,hlm];omega)
 ·have:=zjj hs (zeg (blB hs (ps.map (zf7 op dt))) (ps.map (zf7 op dt)));rw[zl2,hlm] at this;omega
 ·refine⟨_,rfl,?_,hH2 X hX⟩;unfold zf9;rw[← HPS.out];exact Row.of_own hO
theorem zmy (p:ByteArray):∀(l:List Hav) (f:ByteArray→Option ByteArray),z6b l→(l.foldl (fun f h=>upd f h.path h.loc) f) p=((z6d l p).map Hav.loc).or (f p)
 | [],f,_=>rfl
 | a :: l,f,h=>by
  rw[List.foldl_cons,zmy p l _ h.tail];show _=((z5y Hav.path (a :: l) p).map Hav.loc).or (f p)
  rw[z63];by_cases e:a.path=p
  ·rw[if_pos e];have:z6d l p=none:=z62.2 fun b hb eb=>z5z (h.head b hb) (e.trans eb.symm);rw[this];unfold upd;rw[if_pos e.symm];rfl
  ·rw[if_neg e];unfold upd;rw[if_neg (fun e2=>e e2.symm)]
theorem locs_of {hs:List Hav}(h:zf0 hs)(p:ByteArray):(ziz hs p).getD z2l=zk4 hs p:=by
 unfold ziz zk4;rw[zmy p hs _ h.srt];cases (z6d hs p).map Hav.loc <;> rfl
theorem zmz {F:ByteArray→Option ByteArray}:∀(q:Option Syn) (l:List Syn),z6c l→(∀ y,q=some y→∀ x∈l,z2u y.path x.path<0)→(∀ x∈l,zik x ((F x.path).getD z2l)=true)→ziy F q l=false
 | _,[],_,_,_=>rfl
 | q,x :: l,h,hq,hf=>by
  have hp:zix q x=false:=by
   cases q with
   | none=>rfl
   | some y =>
    have:=hq y rfl x (List.mem_cons_self ..);exact decide_eq_false (by omega)
  rw[ziy,hf x (List.mem_cons_self ..),hp];exact zmz (some x) l h.tail (fun y e z hz=>by cases e;exact h.head z hz) fun z hz=>hf z (List.mem_cons_of_mem _ hz)
section
variable {hs ws : List Hav} {op dt : List ByteArray}
theorem zn0:(zf9 hs ws op dt).length≤hs.length+ws.length:=by
 unfold zf9 zf8;rw[zl2,List.length_map];exact zla _ _ _
theorem plan_E (h1:zf0 hs)(h2:zf0 ws)(hl:hs.length≤100)(wl:ws.length≤100):zj1 hs (zf9 hs ws op dt)=0:=by
 have e1:z4g hs=0:=zf5.2 ⟨h1,by omega⟩
 have e2:z4g (z4y hs (zf9 hs ws op dt))=0:=zf5.2 ⟨zpy h1 h2,by
  have a:=zjj hs (zf9 hs ws op dt);have b:=zn0 (hs:=hs) (ws:=ws) (op:=op) (dt:=dt);omega⟩
 have e3:ziy (ziz hs) none (zf9 hs ws op dt)=false:=zmz none _ (zfd h1 h2).1 (fun y e=>by cases e) fun x hx=>by
  rw[locs_of h1];exact zka h1 h2 hx
 rw[zj2 e1,e2,e3];rfl
theorem zn1 (h1:zf0 hs)(h2:zf0 ws){x:Syn}(hx:x∈zf9 hs ws op dt):x.path.size≤200∧x.frm.size≤200∧x.dst.size≤200:=by
 have h:=zka h1 h2 hx;unfold zik at h;simp only[Bool.and_eq_true] at h
 obtain⟨⟨⟨⟨a1,a2⟩,a3⟩,a4⟩,a5⟩:=h;refine⟨(zf2 a1).2.1,?_,?_⟩
 ·have e:x.frm=zk4 hs x.path:=of_decide_eq_true a2;rw[e];unfold zk4;cases hg:z6d hs x.path with
  | none=>decide
  | some a=>exact (zlc h1 a (zk5 hg).1).2
 ·split at a4
  ·rename_i c;rw[c];decide
  ·simp only[Bool.and_eq_true] at a4;exact (zf2 a4.2).2.1
end
structure PlOk (D:List Rev)(es:List zd8):Prop where
 len:D.length≤1000
 six:∀ r∈D,r.path∈zff
 num:∀ r∈D,1≤r.num
 shw:zfs es
 fwd:zfi (zdt es)
theorem plOk_of {D:List Rev}{n k:Nat}{es:List zd8}(hD:zmr D n)(hn:n≤1000)(hk:k<8)(he:es.map zd8.pl=zg3 k):PlOk D es:=
 ⟨Nat.le_trans hD.len hn,hD.six,zmt hD,(zgb hk he).1,(zfr k).of_congr (zgb hk he).2⟩
def PrPost (w:World)(l:List Hav)(e:Ending)(w':World):Prop:=∃ v,e=.returned (.tuple #[v,.int .i64 0])∧z4b w' v l∧Below w.heap.size w w'
section
variable {D : List Rev} {es : List zd8} {hs : List Hav} {op dt : List ByteArray} {dv dr mv hv ov tv : Value} {w : World}
theorem PlOk.wok (h:PlOk D es)(m:Int):zf0 (zfk D (zdt es) m):=zfn h.num h.fwd
theorem zn2 (h:PlOk D es)(m:Int)(he:Env w)(hR:z45 w dv D)(hE:zdi w mv es):Calls prog 13 #[.agg #[dv,dr],mv,.int .i64 m] w (zfz w (zfk D (zdt es) m)):=
 zg0 D es m dv dr mv w he hR hE (by have:=h.len;omega) h.six h.shw
theorem zn3 (h:PlOk D es)(m:Int)(he:Env w)(hR:z45 w dv D)(hE:zdi w mv es)(hH:z4b w hv hs)(hOk:zf0 hs)(hl:hs.length≤100)(hop:Strs w ov op)(hdt:Strs w tv dt)(opl:op.length≤1000)(dtl:dt.length≤1000):
  Calls prog 12 #[.agg #[dv,dr],mv,.int .i64 m,hv,ov,tv] w (zl9 w (zf9 hs (zfk D (zdt es) m) op dt)):=
 zld D es m hs op dt dv dr mv hv ov tv w he hR hE (by have:=h.len;omega) h.six h.shw h.num h.fwd hH hOk hl hop hdt opl dtl
theorem zn4 {ws:List Hav}{pv:Value}(h1:zf0 hs)(h2:zf0 ws)(hl:hs.length≤100)(wl:ws.length≤100)(hH:z4b w hv hs)(hS:z4z w pv (zf9 hs ws op dt)):
  Calls prog 17 #[hv,pv] w (PrPost w (z4y hs (zf9 hs ws op dt))):=by
 have e:=plan_E (op:=op) (dt:=dt) h1 h2 hl wl;have b:=zn0 (hs:=hs) (ws:=ws) (op:=op) (dt:=dt);refine (zju hs _ hv pv w hH hS (fun x hx=>by have:=zlc h1 x hx;omega) (fun x hx=>by have:=zn1 h1 h2 hx;omega) (by omega)).mono fun e' w' ⟨v,e1,e2,e3⟩=>?_
 rw[e] at e1;rw[e,if_pos rfl] at e2;exact⟨v,e1,e2,e3⟩
theorem zn5 {ws:List Hav}{pv:Value}(h1:zf0 hs)(h2:zf0 ws)(hl:hs.length≤100)(wl:ws.length≤100)(hH:z4b w hv hs)(hS:z4z w pv (zf9 hs ws op dt)):
  Calls prog 19 #[hv,pv] w fun e w'=>e=.returned (.int .i64 0)∧Below w.heap.size w w':=by
 have e:=plan_E (op:=op) (dt:=dt) h1 h2 hl wl;have b:=zn0 (hs:=hs) (ws:=ws) (op:=op) (dt:=dt);refine (zjt hs _ hv pv w hH hS (fun x hx=>by have:=zlc h1 x hx;omega) (fun x hx=>by have:=zn1 h1 h2 hx;omega) (by omega)).mono fun e' w' ⟨e1,e3⟩=>?_
 rw[e] at e1;exact⟨e1,e3⟩
theorem zn6 {l:List Hav}{v:Value}(h:zf0 l)(hl:l.length≤1000)(hL:z4b w v l):Calls prog 20 #[v] w fun e w'=>e=.returned (.int .i64 0)∧Below w.heap.size w w':=by
 have e:z4g l=0:=zf5.2 ⟨h,by omega⟩
 have:=z4o l v w hL (fun x hx=>by have:=zlc h x hx;omega)
 rw[e] at this;exact this
end
def zn7:ByteArray:=⟨#[47,47,99,47,97]⟩
def zn8:ByteArray:=⟨#[47,47,99,47,98]⟩
def knRv (p:ByteArray):Rev:=⟨p,1,1,1,⟨1,false,false,false⟩,1,1,z2l,0⟩
def knD:List Rev:=[knRv knA,knRv knB]
def knH:List Hav:=[⟨knA,1,zn8⟩,⟨knB,1,zn7⟩]
def knWs:List Hav:=[⟨knA,1,zn7⟩,⟨knB,1,zn8⟩]
def knX:Syn:=⟨3,knA,1,zn8,zn7⟩
def knY:Syn:=⟨6,knB,1,zn7,zn8⟩
theorem zn9:zfk knD (zfq 0) 1=knWs:=by kernel_rfl
theorem kn_hav:zf0 knH:=by
 refine⟨?_,by decide +kernel,by decide +kernel⟩
 unfold z6b z5x knH;simp only[List.pairwise_cons,List.mem_singleton,forall_eq,List.not_mem_nil,false_implies,implies_true,List.Pairwise.nil,and_true]
 decide +kernel
theorem zna:zf8 knH knWs [knB] []=[knX,knY]:=by
 have c1:¬ z2u knA knA<0:=by decide +kernel
 have c2:¬ 0<z2u knA knA:=by decide +kernel
 have d1:¬ z2u knB knB<0:=by decide +kernel
 have d2:¬ 0<z2u knB knB:=by decide +kernel
 have e1:¬(⟨knA,1,zn8⟩:Hav)=⟨knA,1,zn7⟩:=fun h=>by injection h with _ _ h;exact absurd h (by decide)
 have e2:¬(⟨knB,1,zn7⟩:Hav)=⟨knB,1,zn8⟩:=fun h=>by injection h with _ _ h;exact absurd h (by decide)
 have h:z6h 4 knH knWs=[⟨0,knA,1,zn8,zn7⟩,⟨0,knB,1,zn7,zn8⟩]:=by
  unfold knH knWs;simp only[z6h,if_neg c1,if_neg c2,if_neg d1,if_neg d2,if_neg e1,if_neg e2]
  rfl
 show (z6h 4 knH knWs).map (zf7 [knB] [])=_
 rw[h];kernel_rfl
theorem kn_blA:blB knH [knX,knY] knA=true:=zee.2 (Bl.stay (x:=knX) (y:=knY) (h:=⟨knB,1,zn7⟩) (List.mem_cons_self ..) rfl (by decide) (List.mem_cons_of_mem _ (List.mem_cons_self ..)) rfl (by decide) (by kernel_rfl) rfl)
theorem kn_blB:blB knH [knX,knY] knB=false:=by
 have key:∀ p,Bl knH [knX,knY] p→p=knA:=by
  intro p h;have go:∀ x:Syn,x∈[knX,knY]→z3o x.kind=false→x.path=knA:=fun x hx hk=>by
   simp only[List.mem_cons,List.not_mem_nil,or_false] at hx
   rcases hx with rfl | rfl
   ·rfl
   ·exact absurd hk (by decide)
  cases h with
  | free hx hk=>exact go _ hx hk
  | stay hx hk=>exact go _ hx hk
  | next hx hk=>exact go _ hx hk
 cases hb:blB knH [knX,knY] knB with
 | false=>rfl
 | true=>exact absurd (key knB (zee.1 hb)) (by decide)
theorem kn_plan:zf9 knH (zfk knD (zfq 0) 1) [knB] []=[⟨5,knA,1,zn8,zn7⟩,knY]:=by
 rw[zn9];unfold zf9;rw[zna];show [zef _ knX,zef _ knY]=_
 unfold zef;rw[show blB knH [knX,knY] knX.path=true from kn_blA,show blB knH [knX,knY] knY.path=false from kn_blB];rfl
theorem kn_plOk {es:List zd8}(he:es.map zd8.pl=zg3 0):PlOk knD es:=
 ⟨by decide,by decide +kernel,by decide +kernel,(zgb (by decide) he).1,(zfr 0).of_congr (zgb (by decide) he).2⟩
theorem kn_fwd {es:List zd8}(he:es.map zd8.pl=zg3 0):zfk knD (zdt es) 1=zfk knD (zfq 0) 1:=zgc (zgb (by decide) he).2
structure KnS (w X:World)(g bl be bn gs:Nat)(Ae:Option Addr)(ce:Nat):Prop where
 bel:Below w.heap.size w X
 chk:Chk X g (.slice none 0 0) (.slice none 0 0) 1 ⟨#[]⟩ ⟨#[]⟩ (.slice Ae 2 ce) (.slice none 0 0) bl be bn
 last:z7r X bl zgn
 ne:bl≠be
 eds:KnE X Ae ce
 boxD:Blk X w.heap.size 26 [.slice none 0 0,.slice none 0 0]
 boxC:Blk X (w.heap.size+1) 95 [.int .i64 1,.string ⟨#[]⟩,.string ⟨#[]⟩,.slice Ae 2 ce,.slice none 0 0]
 boxR:Blk X (w.heap.size+1+1) 26 [.slice none 0 0,.slice none 0 0]
 stp:Blk X gs 141 [.func (.func 113) #[.pointer (some ⟨g,0,none⟩)] #[],.func (.func 114) #[.pointer (some ⟨g,0,none⟩)] #[],.func (.func 115) #[.pointer (some ⟨g,0,none⟩)] #[],.func (.func 116) #[.pointer (some ⟨g,0,none⟩)] #[],.func (.func 117) #[.pointer (some ⟨g,0,none⟩)] #[]]
theorem KnS.below {w X X':World}{g bl be bn gs:Nat}{Ae:Option Addr}{ce:Nat}(h:KnS w X g bl be bn gs Ae ce)(hb:Below X.heap.size X X'):KnS w X' g bl be bn gs Ae ce:=
 ⟨z0r h.bel hb,h.chk.below hb h.chk.lt,z2f.below h.last hb,h.ne,h.eds.below hb,h.boxD.below hb h.boxD.lt,h.boxC.below hb h.boxC.lt,h.boxR.below hb h.boxR.lt,h.stp.below hb h.stp.lt⟩
theorem KnS.every {w X X':World}{g bl be bn gs:Nat}{Ae:Option Addr}{ce:Nat}(h:KnS w X g bl be bn gs Ae ce)(ho:∃ es c,X.heap[be]? = some (.map es c))(hg:X.grownBy X' (some be))(hle:w.heap.size≤be):KnS w X' g bl be bn gs Ae ce:=
 ⟨h.bel.grown hg h.bel.size (fun k e=>by injection e with e;omega),Blk.turn h.chk ho hg,z2f.grown h.last hg (by intro e;injection e with e;exact h.ne e),h.ne,Row.turn h.eds (by decide) ho hg,Blk.turn h.boxD ho hg,Blk.turn h.boxC ho hg,Blk.turn h.boxR ho hg,Blk.turn h.stp ho hg⟩
def KnAp (w:World)(e:Ending)(w':World):Prop:=∃(A:Option Addr) (c:Nat) (A2:Option Addr) (c2:Nat),e=.returned (.tuple #[.agg #[.slice A 2 c,.slice A2 0 c2],.int .i64 0])∧z45 w' (.slice A 2 c) knD∧Below w.heap.size w w'
theorem znb {k:Nat}{p:ByteArray}(hk:k<2)(h0:k=0→p=knA)(h1:k=1→p=knB):(knD.take (k+1)).flatMap Rev.cells=(knD.take k).flatMap Rev.cells++[.string p,.int .i64 1,.int .i64 1,.int .i64 1,.int .i64 1,.bool false,.bool false,.bool false,.int .u64 1,.int .i64 1,.string ⟨#[]⟩,.int .i64 0]:=by
 rcases (by omega:k=0∨k=1) with rfl | rfl
 ·rw[h0 rfl];rfl
 ·rw[h1 rfl];rfl
theorem znc (Ae:Option Addr)(ce:Nat)(w:World)(hE:KnE w Ae ce):Calls prog 43 #[.agg #[.slice none 0 0,.slice none 0 0],.agg #[.int .i64 1,.string ⟨#[]⟩,.string ⟨#[]⟩,.slice Ae 2 ce,.slice none 0 0]] w (KnAp w):=by
 obtain⟨W1,hW1⟩:∃ W,W=((w.alloc (.cells #[.slice none 0 0,.slice none 0 0] 26)).alloc (.cells #[.int .i64 1,.string ⟨#[]⟩,.string ⟨#[]⟩,.slice Ae 2 ce,.slice none 0 0] 95)).alloc (.cells #[.slice none 0 0,.slice none 0 0] 26):=⟨_,rfl⟩;have hb1:Below w.heap.size w W1:=by rw[hW1];exact (((Below.refl _ _).alloc (Nat.le_refl _) _).alloc (by simp) _).alloc (by simp;omega) _
 have hs1:W1.heap.size=w.heap.size+1+1+1:=by rw[hW1];simp
 have hB1:Blk W1 w.heap.size 26 [.slice none 0 0,.slice none 0 0]:=by rw[hW1];exact ((z0l w _ _).alloc _).alloc _
 have hB2:Blk W1 (w.heap.size+1) 95 [.int .i64 1,.string ⟨#[]⟩,.string ⟨#[]⟩,.slice Ae 2 ce,.slice none 0 0]:=by
  rw[hW1];have:=z0l (w.alloc (.cells #[.slice none 0 0,.slice none 0 0] 26)) [.int .i64 1,.string ⟨#[]⟩,.string ⟨#[]⟩,.slice Ae 2 ce,.slice none 0 0] 95;simp only[World.size_alloc] at this
  exact this.alloc _
 have hB3:Blk W1 (w.heap.size+1+1) 26 [.slice none 0 0,.slice none 0 0]:=by
  rw[hW1];have:=z0l ((w.alloc (.cells #[.slice none 0 0,.slice none 0 0] 26)).alloc (.cells #[.int .i64 1,.string ⟨#[]⟩,.string ⟨#[]⟩,.slice Ae 2 ce,.slice none 0 0] 95)) [.slice none 0 0,.slice none 0 0] 26;simp only[World.size_alloc] at this
  exact this
 have HW1:=hd_ hW1;have HNC:=hd_ (knNew Ae ce W1);have HE:=hd_ hE;clear hW1 hE;go_enter func43,ntmps43;obtain⟨c0,c1,-,-⟩:=box2 hB1;obtain⟨d0,d1,d2,d3,d4⟩:=zhx hB2;go_upto_region 1 with fail;rw[← HW1.out];go_wp2_with fail;refine HNC.out.mono ?_;rintro e w2 ⟨g,bl,be,bn,rfl,hK2⟩;have HK2:=hd_ hK2;clear c0 c1 d0 d1 d2 d3 d4 hK2;go_wp2_with fail;refine (knSteps g w2).mono ?_;rintro e w3 ⟨rfl,hb3,hs3⟩;have HST:Hid (KnS w w3 g bl be bn w2.heap.size Ae ce):=hd_ (by
  have k:=HK2.out;have hb13:Below W1.heap.size W1 w3:=z0r k.bel hb3;have hbw:Below w.heap.size w w3:=z0r hb1 hb13;exact⟨hbw,k.chk.below hb3 k.chk.lt,z2f.below k.last hb3,k.ne,KnE.below HE.out hbw,hB1.below hb13 hB1.lt,hB2.below hb13 hB2.lt,hB3.below hb13 hB3.lt,hs3⟩)
 have HEM:Hid (∃ F,z7s w3 be F):=hd_ (by obtain⟨F,hF⟩:=HK2.out.edt;exact⟨F,z2f.below hF hb3⟩)
 have HLE:Hid (w.heap.size≤be):=hd_ (by have:=HK2.out.le;omega)
 clear hb3 hs3 hB1 hB2 hB3 hb1 hs1 HK2 HNC HW1;generalize w2.heap.size=gs at HST ⊢;go_wp2_with fail;refine wp_loop_rounds 6 ?_;rw[rounds_succ];have t0:w3.cell? ⟨gs,0,none⟩=some (.func (.func 113) #[.pointer (some ⟨g,0,none⟩)] #[]):=HST.out.stp.cell 0;have HZ0:=hd_ (knSize g bl be bn Ae ce w3 HST.out.chk);go_wp2_with fail;refine HZ0.out.mono ?_;rintro e v0 ⟨rfl,hv⟩;have HS0:=hd_ (HST.out.below hv);have HEM0:Hid (∃ F,z7s v0 be F):=hd_ (by obtain⟨F,hF⟩:=HEM.out;exact⟨F,z2f.below hF hv⟩)
 clear hv t0 HZ0 HST HEM;go_wp2_with fail;rw[rounds_succ];have t1:v0.cell? ⟨gs,1,none⟩=some (.func (.func 114) #[.pointer (some ⟨g,0,none⟩)] #[]):=HS0.out.stp.cell 1;obtain⟨F,hF⟩:=HEM0.out;have HOB:=hd_ (z2f.obj hF);have HZ1:=hd_ (knEvery g bl be bn Ae ce v0 HS0.out.chk HS0.out.last HS0.out.ne HS0.out.eds hF);clear hF HEM0;go_wp2_with fail;refine HZ1.out.mono ?_;rintro e v1 ⟨rfl,hv⟩;have HS1:=hd_ (HS0.out.every HOB.out hv HLE.out);clear hv t1 HZ1 HS0 HOB;go_wp2_with fail;rw[rounds_succ];have t2:v1.cell? ⟨gs,2,none⟩=some (.func (.func 115) #[.pointer (some ⟨g,0,none⟩)] #[]):=HS1.out.stp.cell 2;have HZ2:=hd_ (knMoves g bl be bn Ae ce v1 HS1.out.chk HS1.out.eds);go_wp2_with fail;refine HZ2.out.mono ?_;rintro e v2 ⟨rfl,hv⟩;have HS2:=hd_ (HS1.out.below hv);clear hv t2 HZ2 HS1;go_wp2_with fail;rw[rounds_succ];have t3:v2.cell? ⟨gs,3,none⟩=some (.func (.func 116) #[.pointer (some ⟨g,0,none⟩)] #[]):=HS2.out.stp.cell 3;have HZ3:=hd_ (knRecs g bl be bn Ae ce v2 HS2.out.chk);go_wp2_with fail;refine HZ3.out.mono ?_;rintro e v3 ⟨rfl,hv⟩;have HS3:=hd_ (HS2.out.below hv);clear hv t3 HZ3 HS2;go_wp2_with fail;rw[rounds_succ];have t4:v3.cell? ⟨gs,4,none⟩=some (.func (.func 117) #[.pointer (some ⟨g,0,none⟩)] #[]):=HS3.out.stp.cell 4;have HZ4:=hd_ (knRoom g bl be bn Ae ce v3 HS3.out.chk);go_wp2_with fail;refine HZ4.out.mono ?_;rintro e v4 ⟨rfl,hv⟩;have HS4:=hd_ (HS3.out.below hv);clear hv t4 HZ4 HS3;go_wp2_with fail;rw[rounds_succ];go_upto_region 9 with fail;refine knR9 _ (by kernel_rfl) _ w.heap.size (w.heap.size+1) (.slice Ae 2 ce) v4 HS4.out.boxD HS4.out.boxC ?_
 intro eH eI eJ eK eL eM eN eO eP eQ g10 v2' w5 H9;have HR0:=hd_ H9.out.1;obtain⟨A2,c2,hv2⟩:=H9.out.2;clear H9;subst hv2;have e3:w5.cell? ⟨w.heap.size+1,3,none⟩=some (.slice Ae 2 ce):=(HS4.out.below HR0.out.bel).boxC.cell 3;go_wp2_with fail;clear e3;go_loopw [43] (fun s wr=>∃(k:Nat) (v1:Value),s=.int .i64 k∧k≤2∧Hid (WaR v4 wr g10 v1 (.slice A2 0 c2) k ((knD.take k).flatMap Rev.cells))) (fun s _=>2 - (intOf s).toNat)
 case atStart=>exact⟨0,_,rfl,by omega,HR0.out⟩
 case round =>
  obtain⟨k,v1,rfl,hk,HK⟩:=hrel;by_cases hlt:k<2
  ·obtain⟨ad,p,rfl,hab,⟨x0,x1,x2,x3,x4,x5,x6,x7,x8,x9,x10,x11⟩,hp0,hp1⟩:=(HS4.out.below HK.out.bel).eds.at_ k hlt;have HT:=hd_ (znb hlt hp0 hp1);have hX1:=z0l wr [.string p,.int .i64 1,.int .i64 1,.bool false,.bool false,.bool false,.int .u64 1,.int .i64 1,.int .i64 0,.string ⟨#[]⟩,.int .i64 0,.int .i64 0] 90;have hA1:Below wr.heap.size wr (wr.alloc (.cells #[.string p,.int .i64 1,.int .i64 1,.bool false,.bool false,.bool false,.int .u64 1,.int .i64 1,.int .i64 0,.string ⟨#[]⟩,.int .i64 0,.int .i64 0] 90)):=(Below.refl _ _).alloc (Nat.le_refl _) _;have q2:decide ((k:Int)<2)=true:=by simp;omega
   clear hp0 hp1;go_upto_region 13 with fail;clear x0 x1 x2 x3 x4 x5 x6 x7 x8 x9 x10 x11;generalize wr.alloc (.cells #[.string p,.int .i64 1,.int .i64 1,.bool false,.bool false,.bool false,.int .u64 1,.int .i64 1,.int .i64 0,.string ⟨#[]⟩,.int .i64 0,.int .i64 0] 90)=V1 at hX1 hA1 ⊢;have HRV2:=hd_ (fun X (hX:Below V1.heap.size V1 X)=>zij p g bl be bn _ ce X ((HS4.out.below (z0r (z0r HK.out.bel hA1) hX)).chk) ((HS4.out.below (z0r (z0r HK.out.bel hA1) hX)).last));have HAR:=hd_ (HK.out.under hA1);have HX1:=hd_ hX1;clear hX1;refine knR13 _ (by kernel_rfl) _ g g10 wr.heap.size k p v1 _ _ v4 V1 HAR.out HX1.out (by omega) HRV2.out ?_
   intro eY eZ fa fd fe ff fg fh v3 w6 HQ;go_wp2_with fail;go_roundw
   case rel =>
    refine⟨k+1,v3,by go_num,by omega,?_⟩
    have:=HQ.out;rw[← HT.out] at this;exact this
   case measure=>simp [intOf];omega
  ·have hkk:k=2:=by omega
   subst hkk;have hR2:=HK.out;obtain⟨A1,c1,hv1⟩:=z0o hR2.one;subst hv1;have HSR:=hd_ (fun X=>knSort A2 c2 (.func (.func 78) #[] #[]) X);have b1':wr.cell? ⟨g10,1,none⟩=some (.slice A2 0 c2):=hR2.box.cell 1;have HR2:=hd_ hR2;clear hR2 HK;have q2:decide ((2:Int)<2)=false:=by decide
   go_wp2_with fail;refine (HSR.out _).mono ?_;rintro e w6 ⟨rfl,rfl⟩;have hbx:=HR2.out.box;have hre:=(HS4.out.below HR2.out.bel).boxR;have hbw:=(HS4.out.below HR2.out.bel).bel;have hlt6:w.heap.size+1+1<v4.heap.size:=HS4.out.boxR.lt;have HBW:=hd_ hbw;clear b1' hbw;obtain⟨b0,b1,-,-⟩:=box2 hbx;obtain⟨r0,r1,f0,f1⟩:=box2 hre;go_wp2_with fail;have hR5:=(hre.set_ 0 (.slice A1 2 c1)).set_ 1 (.slice A2 0 c2);have hB5:=(HBW.out.setCell (p:=⟨w.heap.size+1+1,0,none⟩) (by simp;omega) (.slice A1 2 c1)).setCell (p:=⟨w.heap.size+1+1,1,none⟩) (by simp;omega) (.slice A2 0 c2)
   have hO5:=Row.of_own (z4r (z4r HR2.out.one (p:=⟨w.heap.size+1+1,0,none⟩) (fun e=>by have:=HR2.out.one.lt _ e;simp at this;omega) (.slice A1 2 c1)) (p:=⟨w.heap.size+1+1,1,none⟩) (fun e=>by have:=HR2.out.one.lt _ e;simp at this;omega) (.slice A2 0 c2))
   clear b0 b1 r0 r1 f0 f1 hre hbx;generalize (wr.setCell ⟨w.heap.size+1+1,0,none⟩ (.slice A1 2 c1)).setCell ⟨w.heap.size+1+1,1,none⟩ (.slice A2 0 c2)=W5 at hR5 hB5 hO5 ⊢;obtain⟨r0,r1,-,-⟩:=box2 hR5;exact bodyPost_ret (v:=.tuple #[.agg #[.slice A1 2 c1,.slice A2 0 c2],.int .i64 0]) (by simp [results,results43,go_sem,r0,r1]) rfl ⟨A1,c1,_,_,rfl,hO5,hB5⟩
theorem neq_hav (x:Hav)(W:World):(binOp .neq 44 (.agg #[.string x.path,.int .i64 x.num,.string x.loc]) (.agg #[.string x.path,.int .i64 x.num,.string x.loc])).run prog W=.ok (.bool false) W:=by
 rw[run_neq_struct,run_equalIn_agg W 9999 44 _ _ (by kernel_rfl) (by kernel_rfl)]
 simp [go_sem,Op.eqFields]
theorem neq_syn (x:Syn)(W:World):(binOp .neq 48 (.agg #[.int .i64 x.kind,.string x.path,.int .i64 x.num,.string x.frm,.string x.dst]) (.agg #[.int .i64 x.kind,.string x.path,.int .i64 x.num,.string x.frm,.string x.dst])).run prog W=.ok (.bool false) W:=by
 rw[run_neq_struct,run_equalIn_agg W 9999 48 _ _ (by kernel_rfl) (by kernel_rfl)]
 simp [go_sem,Op.eqFields]
theorem zqd (L:List Hav)(v u:Value)(w:World)(h1:z4b w v L)(h2:z4b w u L):
  Calls prog 18 #[v,u] w fun e w'=>e=.returned (.bool true)∧Below w.heap.size w w':=by
 obtain⟨A1,c1,rfl,-,hmm,-⟩:=id h1;obtain⟨A2,c2,rfl,-⟩:=id h2;unfold maxLen at hmm;have hml:L.length≤9223372036854775807:=by obtain⟨A',c',e,h,-⟩:=id h1;injection e;omega
 have H1:=hd_ h1;have H2:=hd_ h2;clear h1 h2;have q0:((L.length:Int) != (L.length:Int))=false:=by simp
 go_enter func18,ntmps18;go_wp2_with fail;clear q0;go_loopw [5] (fun s wr=>∃ k:Nat,s=.int .i64 k∧k≤L.length∧Hid (Below w.heap.size w wr)) (fun s _=>L.length - (intOf s).toNat)
 case atStart=>exact⟨0,rfl,Nat.zero_le _,Below.refl _ _⟩
 case round =>
  obtain⟨k,rfl,hk,HI⟩:=hrel;by_cases hlt:k<L.length
  ·obtain⟨a1,rfl,hb1,hx⟩:=z4b.at_ (Row.below H1.out HI.out) hlt;obtain⟨a2,rfl,hb2,hy⟩:=z4b.at_ (Row.below H2.out HI.out) hlt;have hz1:(k:Int)<(L.length:Int):=by omega
   generalize L[k]=r at hx hy;obtain⟨x0,x1,x2⟩:=hx;obtain⟨y0,y1,y2⟩:=hy;have hne:=neq_hav r;go_upto_region 6 with fail;go_quiet (fail)
   clear x0 x1 x2 y0 y1 y2 hne;go_wp2_with fail;go_roundw
   case rel=>exact⟨k+1,by go_num,by omega,z0p HI.out _⟩
   case measure=>simp [intOf];omega
  ·have HB:=hd_ HI.out;have hge:¬((k:Int)<(L.length:Int)):=by omega
   go_wp2_with fail;go_ret;exact⟨rfl,HB.out⟩
theorem znd (L:List Syn)(v u:Value)(w:World)(h1:z4z w v L)(h2:z4z w u L):
  Calls prog 23 #[v,u] w fun e w'=>e=.returned (.bool true)∧Below w.heap.size w w':=by
 obtain⟨A1,c1,rfl,-,hmm,-⟩:=id h1;obtain⟨A2,c2,rfl,-⟩:=id h2;unfold maxLen at hmm;have hml:L.length≤9223372036854775807:=by obtain⟨A',c',e,h,-⟩:=id h1;injection e;omega
 have H1:=hd_ h1;have H2:=hd_ h2;clear h1 h2;have q0:((L.length:Int) != (L.length:Int))=false:=by simp
 go_enter func23,ntmps23;go_wp2_with fail;clear q0;go_loopw [5] (fun s wr=>∃ k:Nat,s=.int .i64 k∧k≤L.length∧Hid (Below w.heap.size w wr)) (fun s _=>L.length - (intOf s).toNat)
 case atStart=>exact⟨0,rfl,Nat.zero_le _,Below.refl _ _⟩
 case round =>
  obtain⟨k,rfl,hk,HI⟩:=hrel;by_cases hlt:k<L.length
  ·obtain⟨a1,rfl,hb1,hx⟩:=z4z.at_ (Row.below H1.out HI.out) hlt;obtain⟨a2,rfl,hb2,hy⟩:=z4z.at_ (Row.below H2.out HI.out) hlt;have hz1:(k:Int)<(L.length:Int):=by omega
   generalize L[k]=r at hx hy;obtain⟨x0,x1,x2,x3,x4⟩:=hx;obtain⟨y0,y1,y2,y3,y4⟩:=hy;have hne:=neq_syn r;go_upto_region 6 with fail;go_quiet (fail)
   clear x0 x1 x2 x3 x4 y0 y1 y2 y3 y4 hne;go_wp2_with fail;go_roundw
   case rel=>exact⟨k+1,by go_num,by omega,z0p HI.out _⟩
   case measure=>simp [intOf];omega
  ·have HB:=hd_ HI.out;have hge:¬((k:Int)<(L.length:Int)):=by omega
   go_wp2_with fail;go_ret;exact⟨rfl,HB.out⟩
theorem zne (w:World)(he:Env w):Calls prog 14 #[] w fun e w'=>e=.returned (.bool true)∧Below w.heap.size w w':=by
 have HE:=hd_ he;clear he;have hx1:=z0l w [.string ⟨#[47,47,100,47,97]⟩,.int .i64 1,.int .i64 1,.bool false,.bool false,.bool false,.int .u64 1,.int .i64 1,.int .i64 0,.string ⟨#[]⟩,.int .i64 0,.int .i64 0] 90;have hb1:Below w.heap.size w (w.alloc (.cells #[.string ⟨#[47,47,100,47,97]⟩,.int .i64 1,.int .i64 1,.bool false,.bool false,.bool false,.int .u64 1,.int .i64 1,.int .i64 0,.string ⟨#[]⟩,.int .i64 0,.int .i64 0] 90)):=(Below.refl _ _).alloc (Nat.le_refl _) _;go_enter func14,ntmps14;go_upto_region 2 with fail;generalize w.alloc (.cells #[.string ⟨#[47,47,100,47,97]⟩,.int .i64 1,.int .i64 1,.bool false,.bool false,.bool false,.int .u64 1,.int .i64 1,.int .i64 0,.string ⟨#[]⟩,.int .i64 0,.int .i64 0] 90)=W1 at hx1 hb1 ⊢;obtain⟨g1,hg1⟩:∃ g,g=w.heap.size:=⟨_,rfl⟩;rw[← hg1] at hx1 ⊢;obtain⟨x0,x1,x2,x3,x4,x5,x6,x7,x8,x9,x10,x11⟩:=z7z hx1;have hy2:=z0l W1 [.string ⟨#[47,47,100,47,97]⟩,.int .i64 1,.int .i64 1,.bool false,.bool false,.bool false,.int .u64 1,.int .i64 1,.int .i64 0,.string ⟨#[]⟩,.int .i64 0,.int .i64 0] 90;have HG1:=hd_ hg1;clear hg1;go_upto_region 3 with fail;have HB2:=hd_ (zcf hb1 (.cells #[.string ⟨#[47,47,100,47,97]⟩,.int .i64 1,.int .i64 1,.bool false,.bool false,.bool false,.int .u64 1,.int .i64 1,.int .i64 0,.string ⟨#[]⟩,.int .i64 0,.int .i64 0] 90));have hx2:=hx1.alloc (.cells #[.string ⟨#[47,47,100,47,97]⟩,.int .i64 1,.int .i64 1,.bool false,.bool false,.bool false,.int .u64 1,.int .i64 1,.int .i64 0,.string ⟨#[]⟩,.int .i64 0,.int .i64 0] 90);have hlt:g1<W1.heap.size:=hx1.lt;have hlw:=HB2.out.size;have hle2:w.heap.size≤W1.heap.size:=hb1.size;clear x0 x1 x2 x3 x4 x5 x6 x7 x8 x9 x10 x11 hx1 hb1 hlw;generalize W1.alloc (.cells #[.string ⟨#[47,47,100,47,97]⟩,.int .i64 1,.int .i64 1,.bool false,.bool false,.bool false,.int .u64 1,.int .i64 1,.int .i64 0,.string ⟨#[]⟩,.int .i64 0,.int .i64 0] 90)=W2 at HB2 hx2 hy2 ⊢;generalize W1.heap.size=g2 at hy2 hlt hle2 ⊢;have f0:W2.cell? ⟨g2,0,none⟩=some (.string ⟨#[47,47,100,47,97]⟩):=hy2.cell 0;have f1:W2.frozen? ⟨g2,0,none⟩=false:=hy2.frozen 0
 go_upto_region 4 with fail;have hy3:=hy2.set_ 0 (.string ⟨#[47,47,100,47,98]⟩);have hx3:=hx2.far (p:=⟨g2,0,none⟩) (by show g2≠g1;omega) (.string ⟨#[47,47,100,47,98]⟩)
 have HB3:=hd_ (HB2.out.setCell (p:=⟨g2,0,none⟩) hle2 (.string ⟨#[47,47,100,47,98]⟩));clear f0 f1 hx2 hy2 HB2;generalize W2.setCell ⟨g2,0,none⟩ (.string ⟨#[47,47,100,47,98]⟩)=W3 at hy3 hx3 HB3 ⊢;obtain⟨x0,x1,x2,x3,x4,x5,x6,x7,x8,x9,x10,x11⟩:=z7z hx3;have hy3':Blk W3 g2 90 [.string ⟨#[47,47,100,47,98]⟩,.int .i64 1,.int .i64 1,.bool false,.bool false,.bool false,.int .u64 1,.int .i64 1,.int .i64 0,.string ⟨#[]⟩,.int .i64 0,.int .i64 0]:=hy3;obtain⟨y0,y1,y2,y3,y4,y5,y6,y7,y8,y9,y10,y11⟩:=z7z hy3';have HAP:=hd_ (znc (some ⟨W3.heap.size,0,none⟩) 2 (W3.alloc (.cells #[.string ⟨#[47,47,100,47,97]⟩,.int .i64 1,.int .i64 1,.bool false,.bool false,.bool false,.int .u64 1,.int .i64 1,.int .i64 0,.string ⟨#[]⟩,.int .i64 0,.int .i64 0,.string ⟨#[47,47,100,47,98]⟩,.int .i64 1,.int .i64 1,.bool false,.bool false,.bool false,.int .u64 1,.int .i64 1,.int .i64 0,.string ⟨#[]⟩,.int .i64 0,.int .i64 0] 90)) (z0i W3 [.string ⟨#[47,47,100,47,97]⟩,.int .i64 1,.int .i64 1,.bool false,.bool false,.bool false,.int .u64 1,.int .i64 1,.int .i64 0,.string ⟨#[]⟩,.int .i64 0,.int .i64 0,.string ⟨#[47,47,100,47,98]⟩,.int .i64 1,.int .i64 1,.bool false,.bool false,.bool false,.int .u64 1,.int .i64 1,.int .i64 0,.string ⟨#[]⟩,.int .i64 0,.int .i64 0] 90 12 2 rfl (by decide) _ rfl))
 have HB4:=hd_ (zcf HB3.out (.cells #[.string ⟨#[47,47,100,47,97]⟩,.int .i64 1,.int .i64 1,.bool false,.bool false,.bool false,.int .u64 1,.int .i64 1,.int .i64 0,.string ⟨#[]⟩,.int .i64 0,.int .i64 0,.string ⟨#[47,47,100,47,98]⟩,.int .i64 1,.int .i64 1,.bool false,.bool false,.bool false,.int .u64 1,.int .i64 1,.int .i64 0,.string ⟨#[]⟩,.int .i64 0,.int .i64 0] 90));clear hy3 hx3 HB3;go_wp2_with fail;refine HAP.out.mono ?_;rintro e w5 ⟨A,c,A2,c2,rfl,hR5,hb5⟩;dsimp only;have HB5:=hd_ (z0r HB4.out hb5);have HR5:=hd_ hR5;clear x0 x1 x2 x3 x4 x5 x6 x7 x8 x9 x10 x11 y0 y1 y2 y3 y4 y5 y6 y7 y8 y9 y10 y11 hy3' hR5 hb5 HAP HB4;go_upto_region 5 with fail;have HX6:=hd_ (z0l w5 [.slice A 2 c,.slice A2 0 c2] 26);have ha6:Below w5.heap.size w5 (w5.alloc (.cells #[.slice A 2 c,.slice A2 0 c2] 26)):=(Below.refl _ _).alloc (Nat.le_refl _) _;have HB6:=hd_ (z0r HB5.out ha6);have HR6:=hd_ (HR5.out.below ha6);clear ha6 HR5 HB5;generalize w5.alloc (.cells #[.slice A 2 c,.slice A2 0 c2] 26)=W6 at HX6 HB6 HR6 ⊢;generalize w5.heap.size=g6 at HX6 ⊢;go_upto_region 6 with fail;have hP1:=z0l W6 [.string ⟨#[100]⟩] 9;have hP2:=z0l (W6.alloc (.cells #[.string ⟨#[100]⟩] 9)) [.string ⟨#[99]⟩] 9;have ha7:Below W6.heap.size W6 (W6.alloc (.cells #[.string ⟨#[100]⟩] 9)):=(Below.refl _ _).alloc (Nat.le_refl _) _;have ha8:=zcf ha7 (.cells #[.string ⟨#[99]⟩] 9);have hP3:=hP1.alloc (.cells #[.string ⟨#[99]⟩] 9);rw[World.size_alloc] at hP2;have HM:=hd_ (zgm (n:=1) (cs:=[.slice (some ⟨W6.heap.size,0,none⟩) 1 1,.bool true,.slice (some ⟨W6.heap.size+1,0,none⟩) 1 1,.bool true,.slice none 0 0]) (es:=([⟨(⟨[zg1 100],true⟩,some ⟨W6.heap.size,0,none⟩,1),(⟨[zg1 99],true⟩,some ⟨W6.heap.size+1,0,none⟩,1),.slice none 0 0,[]⟩]:List zd8)) ha8 rfl rfl (by show 1≤1000;omega) (by
  intro x hx;simp only[List.mem_cons,List.not_mem_nil,or_false] at hx
  subst hx;exact⟨zgk (l:=[zg1 100]) hP3 rfl (by decide) (by decide),zgk (l:=[zg1 99]) hP2 rfl (by decide) (by decide),zgl _,Nat.zero_le _⟩))
 have hes:([⟨(⟨[zg1 100],true⟩,some ⟨W6.heap.size,0,none⟩,1),(⟨[zg1 99],true⟩,some ⟨W6.heap.size+1,0,none⟩,1),.slice none 0 0,[]⟩]:List zd8).map zd8.pl=zg3 0:=rfl;generalize ([⟨(⟨[zg1 100],true⟩,some ⟨W6.heap.size,0,none⟩,1),(⟨[zg1 99],true⟩,some ⟨W6.heap.size+1,0,none⟩,1),.slice none 0 0,[]⟩]:List zd8)=es at HM hes;have HES:=hd_ hes;simp only[World.size_alloc] at HM
 clear hP1 hP2 hP3 ha7 ha8 hes;have HB9:=hd_ (z0r HB6.out HM.out.2);have HR9:=hd_ (HR6.out.below HM.out.2);have HX9:=hd_ (HX6.out.below HM.out.2 HX6.out.lt);have HM9:=hd_ HM.out.1;clear HM HB6 HR6 HX6;(try simp only[World.size_alloc])
 generalize ((W6.alloc (.cells #[.string ⟨#[100]⟩] 9)).alloc (.cells #[.string ⟨#[99]⟩] 9)).alloc (.cells #[.slice (some ⟨W6.heap.size,0,none⟩) 1 1,.bool true,.slice (some ⟨W6.heap.size+1,0,none⟩) 1 1,.bool true,.slice none 0 0] 100)=W9 at HB9 HR9 HX9 HM9 ⊢;generalize W6.heap.size+1+1=g9 at HM9 ⊢;go_upto_region 7 with fail;have hH:=z0i W9 [.string ⟨#[47,47,100,47,97]⟩,.int .i64 1,.string ⟨#[47,47,99,47,98]⟩,.string ⟨#[47,47,100,47,98]⟩,.int .i64 1,.string ⟨#[47,47,99,47,97]⟩] 44 3 2 rfl (by decide) _ rfl
 have ha10:Below W9.heap.size W9 (W9.alloc (.cells #[.string ⟨#[47,47,100,47,97]⟩,.int .i64 1,.string ⟨#[47,47,99,47,98]⟩,.string ⟨#[47,47,100,47,98]⟩,.int .i64 1,.string ⟨#[47,47,99,47,97]⟩] 44)):=(Below.refl _ _).alloc (Nat.le_refl _) _;have HB10:=hd_ (z0r HB9.out ha10);have HR10:=hd_ (HR9.out.below ha10);have HX10:=hd_ (HX9.out.below ha10 HX9.out.lt);have HM10:=hd_ (HM9.out.below ha10);have HH10:Hid (z4b _ _ knH):=hd_ hH;clear hH ha10 HB9 HR9 HX9 HM9;generalize W9.alloc (.cells #[.string ⟨#[47,47,100,47,97]⟩,.int .i64 1,.string ⟨#[47,47,99,47,98]⟩,.string ⟨#[47,47,100,47,98]⟩,.int .i64 1,.string ⟨#[47,47,99,47,97]⟩] 44)=W10 at HB10 HR10 HX10 HM10 HH10 ⊢;generalize W9.heap.size=g10 at HH10 ⊢;obtain⟨x0,x1,-,-⟩:=box2 HX10.out;have hO:=z0i W10 [.string ⟨#[47,47,100,47,98]⟩] 9 1 1 rfl (by decide) _ rfl
 have ha11:Below W10.heap.size W10 (W10.alloc (.cells #[.string ⟨#[47,47,100,47,98]⟩] 9)):=(Below.refl _ _).alloc (Nat.le_refl _) _;have HB11:=hd_ (z0r HB10.out ha11);have HPL:=hd_ (zn3 (hs:=knH) (op:=[knB]) (dt:=[]) (dr:=.slice A2 0 c2) (kn_plOk HES.out) 1 (HE.out.below HB11.out) (HR10.out.below ha11) (HM10.out.below ha11) (HH10.out.below ha11) kn_hav (by decide) hO (Row.nil_ _ 1) (by decide) (by decide))
 rw[kn_fwd HES.out,kn_plan] at HPL;clear hO ha11 HB10 HR10 HX10 HM10 HH10;go_wp2_with fail;refine HPL.out.mono ?_;rintro e w12 ⟨pv,rfl,hp,hb⟩;dsimp only;have HB12:=hd_ (z0r HB11.out hb);have hS:=z0i w12 [.int .i64 5,.string ⟨#[47,47,100,47,97]⟩,.int .i64 1,.string ⟨#[47,47,99,47,98]⟩,.string ⟨#[47,47,99,47,97]⟩,.int .i64 6,.string ⟨#[47,47,100,47,98]⟩,.int .i64 1,.string ⟨#[47,47,99,47,97]⟩,.string ⟨#[47,47,99,47,98]⟩] 48 5 2 rfl (by decide) _ rfl
 have ha13:Below w12.heap.size w12 (w12.alloc (.cells #[.int .i64 5,.string ⟨#[47,47,100,47,97]⟩,.int .i64 1,.string ⟨#[47,47,99,47,98]⟩,.string ⟨#[47,47,99,47,97]⟩,.int .i64 6,.string ⟨#[47,47,100,47,98]⟩,.int .i64 1,.string ⟨#[47,47,99,47,97]⟩,.string ⟨#[47,47,99,47,98]⟩] 48)):=(Below.refl _ _).alloc (Nat.le_refl _) _;have HB13:=hd_ (z0r HB12.out ha13);have HSM:=hd_ (znd _ _ _ _ (hp.below ha13) hS);clear hp hb hS ha13 HPL HB11 x0 x1;go_wp2_with fail;refine HSM.out.mono ?_;rintro e w14 ⟨rfl,hb⟩;have HB14:=hd_ (z0r HB13.out hb);clear hb HSM;go_wp2_with fail;go_ret;exact⟨rfl,HB14.out⟩
open Go.RowKit Go.ChangeShapes Go.WideShapes Go.Deep
section
variable {H : Type} {enc : TypeId × Value → H} {P : Program} {w : World} {spare : Nat → Bool} {held : Bool}
theorem zpr {w:World}{b:Nat}{x:TypeId×Nat}(h:w.shape? b=some x):b<w.heap.size:=by
 rcases Nat.lt_or_ge b w.heap.size with h1 | h1
 ·exact h1
 ·have:w.heap[b]? = none:=Array.getElem?_eq_none h1;unfold World.shape? at h
  rw[this] at h;cases h
theorem zps {t e:TypeId}{r:Reach}{b0:Nat}{v:Value}{d:DataW H}{p:List MemPlace}(ht:P.underlying t=some (.slice e))(he:P.underlying e=some (.int .i64))(hc:P.cellsOf e=1)
  (hv:Value.okWide P w r b0 t v) (h:DataW.Trod enc P w 0 spare held t v d p):
  ∃(l:List Int) (A:Option Addr) (c:Nat),v=.slice A l.length c∧Row w 1 (.slice A l.length c) l.length (l.map fun(n:Int)=>.int .i64 n)∧∀ ad,A=some ad→ad.block<w.heap.size:=by
 obtain⟨a,n,c,rfl⟩:=okWide_slice ht hv;have hlt:∀ ad,a=some ad→ad.block<w.heap.size:=by
  rintro ad rfl;simp only[Value.okWide,ht,Cell.okWide,Cell.ok] at hv
  obtain⟨-,-,-,-,row,cells,hs,-⟩:=hv;exact zpr hs
 obtain⟨fuel,hf⟩:=h;rcases open_ints ht he hc hf with⟨hcs,_⟩ | ⟨x,l,c',zs,hcs,_,hl,hm,hz,_,hcell,hwz⟩
 ·simp [Value.cells] at hcs
  obtain⟨rfl,rfl,rfl⟩:=hcs;exact⟨[],none,0,rfl,Row.nil_ w 1,fun ad e=>by cases e⟩
 ·simp [Value.cells] at hcs
  obtain⟨rfl,rfl,rfl⟩:=hcs;have hzl:n≤zs.length:=by rw[hz];split <;> omega
  have hlen:(zs.take n).length=n:=by simp;omega
  refine⟨zs.take n,some x,c,by rw[hlen],?_,hlt⟩
  rw[hlen];refine⟨_,_,rfl,hl,hm,by simp;omega,fun h=>(by cases h),fun hn=>⟨x,rfl,hlt x rfl,fun j u hu=>?_⟩⟩
  have hj:j<n:=by
   have:=(List.getElem?_eq_some_iff.1 hu).1;simp at this;omega
  rw[hcell j (by omega),← hu]
  simp only[List.getElem?_map,List.getElem?_take,hj,if_true,List.getElem?_eq_getElem (show j<zs.length by omega),Option.map_some]
  simp only[List.getD_eq_getElem?_getD,List.getElem?_eq_getElem (show j<zs.length by omega),Option.getD_some]
end
theorem env_of {W:World}(h:W.ShapedOpen prog):Env W:=Tryz.laysM143.s1_3 W h
end Go.Proofs.YtegeboijhifmcaaGreatDoor
