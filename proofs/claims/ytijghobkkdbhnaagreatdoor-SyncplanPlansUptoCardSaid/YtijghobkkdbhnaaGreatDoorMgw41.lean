/- A part. -/
import Derived.Test.YtijghobkkdbhnaaGreatDoorMgw36
import Derived.Test.YtijghobkkdbhnaaGreatDoorMgw38
set_option linter.unusedVariables false
set_option linter.unusedSimpArgs false
set_option maxHeartbeats 8000000
set_option maxRecDepth 100000
namespace Go.Proofs.YtijghobkkdbhnaaGreatDoor
open Go.Proofs.Tryz
open Go.RowKit
theorem knGrow (w:World):Calls prog 145 #[.slice none 0 0,.int .i64 0] w fun e w'=>e=.returned (.slice none 0 0)∧w=w':=by
 go_enter func145,ntmps145;go_wp2_with fail;go_ret;exact⟨rfl,rfl⟩
theorem ziq (g:Nat)(w:World)(hB:Blk w g 25 [.slice none 0 0,.slice none 0 0]):Calls prog 84 #[.slice (some ⟨g,0,none⟩) 2 2] w fun e w'=>∃ A c,e=.returned (.slice A 0 c)∧Below w.heap.size w w':=by
 have b0:w.cell? ⟨g,0,none⟩=some (.slice none 0 0):=hB.cell 0;have b1:w.cell? ⟨g,1,none⟩=some (.slice none 0 0):=hB.cell 1;have HB:=hd_ hB;have HG:=hd_ (knGrow w);clear hB;go_enter func84,ntmps84;go_wp2_with fail;refine wp_loop_rounds 3 ?_;rw[rounds_succ];go_wp2_with fail;rw[rounds_succ];go_wp2_with fail;rw[rounds_succ];go_wp2_with fail;refine HG.out.mono ?_;rintro e w1 ⟨rfl,rfl⟩;go_wp2_with fail;refine wp_loop_rounds 3 ?_;rw[rounds_succ];go_wp2_with (at_builtin;refine z0j (base:=w.heap.size) (n:=0) (xs:=[]) (m:=0) (news:=[]) rfl rfl zh1 (World.ownsRow_nil _ _ _ _) rfl (z48.nil_ w) rfl (fun u h=>by cases h) (by omega) (by unfold maxLen;omega) (Nat.le_refl _) ?_;intro A' c' w2 hO2 hG2 hw2)
 have HO2:=hd_ hO2;have HB2:=hd_ (zil hG2 rfl);have b1:w2.cell? ⟨g,1,none⟩=some (.slice none 0 0):=(HB.out.below HB2.out HB.out.lt).cell 1;clear hO2 hG2 hw2 b0;rw[rounds_succ];go_wp2_with (at_builtin;refine z0j (base:=w.heap.size) (m:=0) (news:=[]) rfl rfl zh1 HO2.out rfl (z48.nil_ w2) rfl (fun u h=>by cases h) (by omega) (by unfold maxLen;omega) HB2.out.size ?_;intro A3 c3 w3 hO3 hG3 hw3)
 have HB3:Hid (Below w.heap.size w w3):=hd_ (HB2.out.grown hG3 HB2.out.size (fun k e=>(HO2.out.lt k e).1));clear hO3 hG3 hw3;rw[rounds_succ];go_wp2_with fail;go_ret;exact⟨_,_,rfl,HB3.out⟩
theorem knSort (A:Option Addr)(c:Nat)(cv:Value)(w:World):Calls prog 86 #[.slice A 0 c,cv] w fun e w'=>e=.returned (.tuple #[])∧w=w':=by
 have H:=hd_ (z5w (.slice A 0 c) cv w);go_enter func86,ntmps86;go_wp2_with fail;refine H.out.mono ?_;rintro e w' ⟨rfl,rfl⟩;go_wp2_with fail;go_end0
 exact⟨rfl,rfl⟩
theorem knClone (w:World):Calls prog 83 #[.slice none 0 0] w fun e w'=>e=.returned (.slice none 0 0)∧w=w':=by
 go_enter func83,ntmps83;have heq:∀ W,(binOp .eql 24 (.slice none 0 0) (.slice none 0 0)).run prog W=.ok (.bool true) W:=fun W=>by kernel_rfl
 go_wp2_with fail;go_ret;exact⟨rfl,rfl⟩
structure KnW (w X:World)(g bl be bn:Nat)(Ae:Option Addr)(ce:Nat):Prop where
 bel:Below w.heap.size w X
 chk:Chk X g (.slice none 0 0) (.slice none 0 0) 1 ⟨#[]⟩ ⟨#[]⟩ (.slice Ae 2 ce) (.slice none 0 0) bl be bn
 last:z7w X bl zgu
 edt:∃ F,z7x X be F
 ne:bl≠be
 le:w.heap.size≤be
theorem knNew (Ae:Option Addr)(ce:Nat)(w:World):Calls prog 81 #[.agg #[.slice none 0 0,.slice none 0 0],.agg #[.int .i64 1,.string ⟨#[]⟩,.string ⟨#[]⟩,.slice Ae 2 ce,.slice none 0 0]] w fun e w'=>∃ g bl be bn,e=.returned (.pointer (some ⟨g,0,none⟩))∧KnW w w' g bl be bn Ae ce:=by
 have hmm:=@run_makeMap prog;go_enter func81,ntmps81;go_wp2_with fail;refine wp_loop_rounds 1 ?_;rw[rounds_succ];go_wp2_with fail;go_ret;refine⟨w.heap.size+1+1+1+1+1,w.heap.size+1+1,w.heap.size+1+1+1,w.heap.size+1+1+1+1,rfl,((((((Below.refl _ _).alloc (Nat.le_refl _) _).alloc (by simp) _).alloc (by simp;omega) _).alloc (by simp;omega) _).alloc (by simp;omega) _).alloc (by simp;omega) _,?_,?_,⟨fun _=>none,?_⟩,?_,?_⟩
 case refine_1=>
  have:=z0l (((((w.alloc (.cells #[.slice none 0 0,.slice none 0 0] 27)).alloc (.cells #[.int .i64 1,.string ⟨#[]⟩,.string ⟨#[]⟩,.slice Ae 2 ce,.slice none 0 0] 105)).alloc (.map #[] 0)).alloc (.map #[] 0)).alloc (.map #[] 0)) [.slice none 0 0,.slice none 0 0,.int .i64 1,.string ⟨#[]⟩,.string ⟨#[]⟩,.slice Ae 2 ce,.slice none 0 0,.map (some (w.heap.size+1+1)),.map (some (w.heap.size+1+1+1)),.map (some (w.heap.size+1+1+1+1))] 204;simp only[World.size_alloc] at this
  exact this
 case refine_2 =>
  have:=z2f.new Value.string Rev.val ((w.alloc (.cells #[.slice none 0 0,.slice none 0 0] 27)).alloc (.cells #[.int .i64 1,.string ⟨#[]⟩,.string ⟨#[]⟩,.slice Ae 2 ce,.slice none 0 0] 105));simp only[World.size_alloc] at this
  exact z2f.alloc (z2f.alloc (z2f.alloc this _) _) _
 case refine_3 =>
  have:=z2f.new Value.string Edt.val (((w.alloc (.cells #[.slice none 0 0,.slice none 0 0] 27)).alloc (.cells #[.int .i64 1,.string ⟨#[]⟩,.string ⟨#[]⟩,.slice Ae 2 ce,.slice none 0 0] 105)).alloc (.map #[] 0));simp only[World.size_alloc] at this
  exact z2f.alloc (z2f.alloc this _) _
 case refine_4=>omega
 case refine_5=>omega
theorem knSteps (g:Nat)(w:World):Calls prog 82 #[.pointer (some ⟨g,0,none⟩)] w fun e w'=>e=.returned (.slice (some ⟨w.heap.size,0,none⟩) 5 5)∧Below w.heap.size w w'∧Blk w' w.heap.size 152 [.func (.func 140) #[.pointer (some ⟨g,0,none⟩)] #[],.func (.func 141) #[.pointer (some ⟨g,0,none⟩)] #[],.func (.func 142) #[.pointer (some ⟨g,0,none⟩)] #[],.func (.func 143) #[.pointer (some ⟨g,0,none⟩)] #[],.func (.func 144) #[.pointer (some ⟨g,0,none⟩)] #[]]:=by
 go_enter func82,ntmps82;go_wp2_with fail;go_ret;exact⟨rfl,(Below.refl _ _).alloc (Nat.le_refl _) _,z0l w _ _⟩
theorem zir (p:ByteArray)(g bl be bn:Nat)(Ae:Option Addr)(ce:Nat)(w:World)(hk:Chk w g (.slice none 0 0) (.slice none 0 0) 1 ⟨#[]⟩ ⟨#[]⟩ (.slice Ae 2 ce) (.slice none 0 0) bl be bn)(hL:z7w w bl zgu):Calls prog 85 #[.pointer (some ⟨g,0,none⟩),.agg #[.string p,.int .i64 1,.int .i64 1,.bool false,.bool false,.bool false,.int .u64 1,.int .i64 1,.int .i64 0,.string ⟨#[]⟩,.int .i64 0,.int .i64 0]] w fun e w'=>e=.returned (.agg #[.string p,.int .i64 1,.int .i64 1,.int .i64 1,.int .i64 1,.bool false,.bool false,.bool false,.int .u64 1,.int .i64 1,.string ⟨#[]⟩,.int .i64 0])∧Below w.heap.size w w':=
 zi0 zgu (knE p) g _ _ _ _ 1 _ _ bl be bn w hk hL (Int.le_refl 0) (show (0:Int)≤1000000 by decide)
section
variable {u0 u1 u2 u3 u4 u5 u6 u7 u8 u9 gz gA gC gD gE gF gG gH gI gJ gK gL gM gN gO gP gQ gR gT gV gW gX gY gZ i6 i7 i8 ia ib ic ie ig ii ij ik il im io ip iq ir iu iv iw ix iy iz iA iB iC : Value}
theorem knR13 (ops:Array Oper)(hops:Tryz.f41.body.bind (zcn 13)=some ops)(Q:Exit→Act→World→Prop)(g g10 ge n:Nat)(p:ByteArray)(v1 v2:Value)(xs:List Value)(V V1:World)
  (hR:WaR V V1 g10 v1 v2 n xs) (hB:Blk V1 ge 100 [.string p,.int .i64 1,.int .i64 1,.bool false,.bool false,.bool false,.int .u64 1,.int .i64 1,.int .i64 0,.string ⟨#[]⟩,.int .i64 0,.int .i64 0]) (hn:n≤100000)
  (hrev:∀ X,Below V1.heap.size V1 X→Calls prog 85 #[.pointer (some ⟨g,0,none⟩),.agg #[.string p,.int .i64 1,.int .i64 1,.bool false,.bool false,.bool false,.int .u64 1,.int .i64 1,.int .i64 0,.string ⟨#[]⟩,.int .i64 0,.int .i64 0]] X fun e w'=>e=.returned (.agg #[.string p,.int .i64 1,.int .i64 1,.int .i64 1,.int .i64 1,.bool false,.bool false,.bool false,.int .u64 1,.int .i64 1,.string ⟨#[]⟩,.int .i64 0])∧Below X.heap.size X w')
  (hQ:∀(ff fg fh fj fk fm fp fq:Value) (v3:Value) (w':World),Hid (WaR V w' g10 v3 v2 (n+1) (xs++[.string p,.int .i64 1,.int .i64 1,.int .i64 1,.int .i64 1,.bool false,.bool false,.bool false,.int .u64 1,.int .i64 1,.string ⟨#[]⟩,.int .i64 0]))→Q .normal ⟨#[u0,u1,u2,u3,u4,u5,.pointer (some ⟨g,0,none⟩),u7,u8,u9,.pointer (some ⟨g10,0,none⟩),gA,.pointer (some ⟨ge,0,none⟩),gD,gE,gF,gG,gH,gI,gJ,gK,gL,gM,gN,gO,gP,gQ,gR,gT,gV,gW,gX,gY,gZ,i6,i7,i8,ia,ib,ic,ie,ig,ii,ij,ik,il,im,ff,fg,fh,fj,fk,fm,fp,fq,iy,iz,iA,iB,iC],[]⟩ w'):
  (Code.region 13 ops true).wp prog Q ⟨#[u0,u1,u2,u3,u4,u5,.pointer (some ⟨g,0,none⟩),u7,u8,u9,.pointer (some ⟨g10,0,none⟩),gA,.pointer (some ⟨ge,0,none⟩),gD,gE,gF,gG,gH,gI,gJ,gK,gL,gM,gN,gO,gP,gQ,gR,gT,gV,gW,gX,gY,gZ,i6,i7,i8,ia,ib,ic,ie,ig,ii,ij,ik,il,im,io,ip,iq,ir,iu,iv,iw,ix,iy,iz,iA,iB,iC],[]⟩ V1:=by
 simp only[Tryz.f41,Option.bind_some,zcn] at hops
 simp at hops
 subst hops;obtain⟨A1,c1,hv1⟩:=z0o hR.one;subst hv1;have HQ:=hd_ hQ;have HR:=hd_ hR;have HRV2:=hd_ hrev;have f0:V1.cell? ⟨g10,0,none⟩=some (.slice A1 n c1):=hR.box.cell 0;obtain⟨c0,c1',c2,c3,c4,c5,c6,c7,c8,c9,c10,c11⟩:=z84 hB;clear hQ hR hB hrev;refine wp_region_noPanic ?_;go_region_law (first
  | (refine zcj rfl rfl zh0 (z0n (z0n HR.out.one hS5) ((Below.refl _ _).alloc (Nat.le_refl _) _)) (by simp [Act.eval,Act.put]) (z0i w5 [.string p,.int .i64 1,.int .i64 1,.int .i64 1,.int .i64 1,.bool false,.bool false,.bool false,.int .u64 1,.int .i64 1,.string ⟨#[]⟩,.int .i64 0] _ 12 1 rfl (by decide) _ rfl) (by simp [Act.eval,Act.put]) (by simp [Value.oneCell']) (by omega) (by unfold maxLen;omega) (by have:=hS5.size;have:=HR.out.bel.size;simp;omega) ?_;intro A6 c6' w6 hO6 hG6 hw6;have hbx:=(HR.out.box.below (z0r hS5 ((Below.refl _ _).alloc (Nat.le_refl _) _)) HR.out.box.lt).grown hG6 (fun e=>HR.out.ne1 e.symm);obtain⟨b0,b1,g0,g1⟩:=box2 hbx)
  | (go_simp;go_at_call 85;refine (HRV2.out _ (Below.refl _ _).drew).mono ?_;rintro e w5 ⟨rfl,hX5⟩;have hS5:Below V1.heap.size V1 w5:=(Below.refl _ _).drew.trans hX5;have f5:w5.cell? ⟨g10,0,none⟩=some (.slice A1 n c1):=(HR.out.box.below hS5 HR.out.box.lt).cell 0;have f6:(w5.alloc (.cells #[.string p,.int .i64 1,.int .i64 1,.int .i64 1,.int .i64 1,.bool false,.bool false,.bool false,.int .u64 1,.int .i64 1,.string ⟨#[]⟩,.int .i64 0] 90)).cell? ⟨g10,0,none⟩=some (.slice A1 n c1):=(HR.out.box.below (hS5.alloc hS5.size _) HR.out.box.lt).cell 0)
  | fail)
 all_goals exact NoPanic.normal (HQ.out _ _ _ _ _ _ _ _ _ _ (HR.out.push (z0r hS5 ((Below.refl _ _).alloc (Nat.le_refl _) _)) hO6 hG6 hw6))
theorem knR9 (ops:Array Oper)(hops:Tryz.f41.body.bind (zcn 9)=some ops)(Q:Exit→Act→World→Prop)(gd gc:Nat)(ev:Value)(V:World)
  (hD:Blk V gd 27 [.slice none 0 0,.slice none 0 0]) (hC:Blk V gc 105 [.int .i64 1,.string ⟨#[]⟩,.string ⟨#[]⟩,ev,.slice none 0 0])
  (hQ:∀(eL eM eN eO eP eQ eR eS eT eU:Value) (g10:Nat) (v2:Value) (w':World),Hid (WaR V w' g10 (.slice none 0 0) v2 0 []∧∃ A c,v2=.slice A 0 c)→Q .normal ⟨#[u0,u1,.pointer (some ⟨gd,0,none⟩),.pointer (some ⟨gc,0,none⟩),u4,u5,u6,u7,u8,u9,.pointer (some ⟨g10,0,none⟩),gA,gC,gD,gE,gF,gG,gH,gI,gJ,gK,gL,gM,gN,gO,gP,gQ,gR,gT,gV,eL,eM,eN,eO,eP,eQ,eR,eS,eT,eU,ie,ig,ii,ij,ik,il,im,io,ip,iq,ir,iu,iv,iw,ix,iy,iz,iA,iB,iC],[]⟩ w'):
  (Code.region 9 ops true).wp prog Q ⟨#[u0,u1,.pointer (some ⟨gd,0,none⟩),.pointer (some ⟨gc,0,none⟩),u4,u5,u6,u7,u8,u9,gz,gA,gC,gD,gE,gF,gG,gH,gI,gJ,gK,gL,gM,gN,gO,gP,gQ,gR,gT,gV,gW,gX,gY,gZ,i6,i7,i8,ia,ib,ic,ie,ig,ii,ij,ik,il,im,io,ip,iq,ir,iu,iv,iw,ix,iy,iz,iA,iB,iC],[]⟩ V:=by
 simp only[Tryz.f41,Option.bind_some,zcn] at hops
 simp at hops
 subst hops;have HQ:=hd_ hQ;have HC:Hid (∀ X,Below V.heap.size V X→X.cell? ⟨gd,0,none⟩=some (.slice none 0 0)∧X.cell? ⟨gd,1,none⟩=some (.slice none 0 0)∧X.cell? ⟨gc,4,none⟩=some (.slice none 0 0)):=hd_ fun X hX=>⟨(hD.below hX hD.lt).cell 0,(hD.below hX hD.lt).cell 1,(hC.below hX hC.lt).cell 4⟩;obtain⟨x0,x1,x2⟩:=HC.out V (Below.refl _ _);clear hQ hD hC;go_region_held3 (fun w'=>Below V.heap.size V w'∧w'.cell? ⟨gd,0,none⟩=some (.slice none 0 0)∧w'.cell? ⟨gd,1,none⟩=some (.slice none 0 0)∧w'.cell? ⟨gc,4,none⟩=some (.slice none 0 0))
  ((refine z3n ?_ (HC.out _);repeat (first | with_reducible assumption | with_reducible exact Below.refl _ _ | with_reducible refine Below.drew ?_ | with_reducible refine zck ?_ _ | refine Below.setCell ?_ (by first | exact hS6.size | exact hle | (have:=hS6.size;simp;omega) | (simp;done)) _)))
  (first
   | (go_at_call 83;refine (knClone _).mono ?_;rintro e w5 ⟨rfl,rfl⟩)
   | (go_at_call 84;refine (ziq _ _ (by first | exact z0l _ _ _ | exact Blk.drew' (z0l _ _ _) | exact Blk.alloc (z0l _ _ _) _ | exact Blk.alloc (Blk.drew' (z0l _ _ _)) _ | exact Blk.drew' (Blk.alloc (z0l _ _ _) _) | exact zcm (by simp) | exact Blk.drew' (zcm (by simp)))).mono ?_;rintro e w6 ⟨A6,c6,rfl,hX6⟩;have hS6:Below V.heap.size V w6:=(by repeat (first | exact Below.refl _ _ | refine Below.drew ?_ | refine zck ?_ _):Below V.heap.size V _).trans (hX6.mono (by simp;try omega));(first | (have hblk:=Blk.below (g:=V.heap.size) (e:=27) (cs:=[.slice none 0 0,.slice none 0 0]) (by first | exact z0l V _ _ | exact Blk.drew' (z0l V _ _) | exact Blk.alloc (z0l V _ _) _ | exact Blk.alloc (Blk.drew' (z0l V _ _)) _ | exact Blk.drew' (Blk.alloc (z0l V _ _) _)) hX6 (by simp;try omega);have hle:V.heap.size≤V.heap.size:=Nat.le_refl _;obtain⟨r0,r1,f0,f1⟩:=box2 hblk) | (have hblk:=Blk.below (g:=V.heap.size+1) (e:=27) (cs:=[.slice none 0 0,.slice none 0 0]) (by first | exact zcm (by simp) | exact Blk.drew' (zcm (by simp))) hX6 (by simp;try omega);have hle:V.heap.size≤V.heap.size+1:=Nat.le_succ _;obtain⟨r0,r1,f0,f1⟩:=box2 hblk) | skip)))
 all_goals first
  | exact HQ.out _ _ _ _ _ _ _ _ _ _ _ _ _ ⟨⟨hS6.alloc hS6.size _,hS6.size,z0l w6 _ _,World.ownsRow_nil _ _ _ _,(fun e=>by cases e)⟩,A6,c6,rfl⟩
  | exact HQ.out _ _ _ _ _ _ _ _ _ _ _ _ _ ⟨⟨(hS6.setCell hle _).setCell hle _,hle,(hblk.set_ 0 _).set_ 1 _,World.ownsRow_nil _ _ _ _,(fun e=>by cases e)⟩,A6,c6,rfl⟩
end
open Go.Sort (grow)
theorem stT21 (T:Code)(hT:Tryz.f50.body.bind (zi2 21)=some T)(R:Ending→World→Prop)(W:World)(B:Nat)(hs:List Hav)(P0:List Syn)(Ah Ap:Option Addr)(ch cp:Nat)
  (hH:∀ X,Below B W X→z4b X (.slice Ah hs.length ch) hs) (hO:zjf W B (.slice Ap P0.length cp) P0) (hB:B≤W.heap.size) (h1:zf6 hs) (hsrt:z6d P0) (hl:hs.length≤1000000) (hl2:P0.length≤1000000)
  (hR:∀ X,Below B W X→zjf X B (.slice Ap P0.length cp) (zel (blB hs P0) P0)→R (.returned (.slice Ap P0.length cp)) X)
  (u0 u2 u3 u4 u5 u6 u7 u8 gz gA gC gD gE gF gG gH gI gJ gK gL gM gN gO gP gQ gR gT gV gW gX gY gZ i6 i7 i8 ia ib ic ie ig ii ij ik il im io ip iq ir iu iv iw ix iy iz iA iB iC iD iE iF iG iH iI iJ iK iL iM iN iO iP iQ iR iS iT iU iV iW iX iY iZ j0 j1 j2 j5 j6 j7 j8 j9 jb jd jf jg jh ji jj jk jl bB bD bE bF bG bH bI bJ bK bL bM bN bO bP bQ bT bU bV bW bX bY bZ cj ck cn cx cy cz cA cB cD cF cG cH cI cJ cK cM cN cO cP cQ cS cT cU cW cZ da dc dd de df dg dh di dj dm du dw dx dy:Value):
  T.wp prog (bodyPost prog Tryz.f50 R) ⟨#[u0,.slice Ah hs.length ch,u2,u3,u4,u5,u6,u7,u8,.slice Ap P0.length cp,gz,gA,gC,gD,gE,gF,gG,gH,gI,gJ,gK,gL,gM,gN,gO,gP,gQ,gR,gT,gV,gW,gX,gY,gZ,i6,i7,i8,ia,ib,ic,ie,ig,ii,ij,ik,il,im,io,ip,iq,ir,iu,iv,iw,ix,iy,iz,iA,iB,iC,iD,iE,iF,iG,iH,iI,iJ,iK,iL,iM,iN,iO,iP,iQ,iR,iS,iT,iU,iV,iW,iX,iY,iZ,j0,j1,j2,j5,j6,j7,j8,j9,jb,jd,jf,jg,jh,ji,jj,jk,jl,bB,bD,bE,bF,bG,bH,bI,bJ,bK,bL,bM,bN,bO,bP,bQ,bT,bU,bV,bW,bX,bY,bZ,cj,ck,cn,cx,cy,cz,cA,cB,cD,cF,cG,cH,cI,cJ,cK,cM,cN,cO,cP,cQ,cS,cT,cU,cW,cZ,da,dc,dd,de,df,dg,dh,di,dj,dm,du,dw,dx,dy],[]⟩ W:=by
 simp only[Tryz.f50,Option.bind_some,zi2,zi1] at hT
 simp at hT
 subst hT;have HH:=hd_ hH;have HR:=hd_ hR;have HOK:=hd_ h1;have HSRT:=hd_ hsrt;have HBW:=hd_ hB;have hO0:zjf W B (.slice Ap P0.length cp) (zel (fun _=>false) P0):=by
  have e:zel (fun _=>false) P0=P0:=by unfold zel zek;simp
  rw[e];exact hO
 have HO:=hd_ hO0;clear hH hR h1 hsrt hO hO0;go_wp2_with fail;go_loopw [20] (fun s wr=>∃(r:Nat) (b:ByteArray→Bool),r≤P0.length∧s=.int .i64 r∧Hid (zpe hs P0 r 0 b∧Below B W wr∧zjf wr B (.slice Ap P0.length cp) (zel b P0))) (fun s _=>P0.length - (intOf s).toNat)
 case atStart=>exact⟨0,_,Nat.zero_le _,rfl,hd_ ⟨rd_init _ _,Below.refl _ _,HO.out⟩⟩
 case round =>
  obtain⟨r,b,hr,rfl,HI⟩:=hrel;by_cases hrl:r<P0.length
  ·have HRL:=hd_ hrl;obtain⟨g,cg,hsl,hBg,-⟩:=zjf.slice HI.out.2.2 (by rw[markL_len];omega)
   injection hsl with hAp hn1 hc1
   subst hAp;clear hn1 hc1;go_wp2_with fail;go_loopw [21] (fun s wr=>∃(i:Nat) (b:ByteArray→Bool),i≤P0.length∧s=.int .i64 i∧Hid (zpe hs P0 r i b∧Below B W wr∧zjf wr B (.slice (some ⟨g,0,none⟩) P0.length cp) (zel b P0))) (fun s _=>P0.length - (intOf s).toNat)
   case atStart=>exact⟨0,b,Nat.zero_le _,rfl,HI⟩
   case round =>
    obtain⟨i,b,hi,rfl,HJ⟩:=hrel;by_cases hlt:i<P0.length
    ·have hml:i<(zel b P0).length:=by rw[markL_len];exact hlt
     obtain⟨⟨y0,y1,y2,y3,y4⟩,fz⟩:=zjf.cell HJ.out.2.2 hml;have HYES:=hd_ (rd_yes HOK.out HSRT.out HJ.out.1 hlt hml);have HNOT:=hd_ (rd_not HOK.out HJ.out.1 hlt hml);have HPT:Hid (∀ X,Below wr.heap.size wr X→(X.cell? ⟨g,i * 5,none⟩=some (.int .i64 (zel b P0)[i].kind)∧X.frozen? ⟨g,i * 5,none⟩=false)∧zjf (X.setCell ⟨g,i * 5,none⟩ (.int .i64 5)) B (.slice (some ⟨g,0,none⟩) P0.length cp) ((zel b P0).set i (zjg 5 (zel b P0)[i]))):=hd_ fun X hX=>by
      have ho:=z0n HJ.out.2.2 hX;obtain⟨⟨a0,-⟩,af⟩:=zjf.cell (show zjf X B _ _ from ho) hml;exact⟨⟨a0,af⟩,zjf.put (show zjf X B _ _ from ho) hml 5⟩
     have HOC:=hd_ (zpw hs (zel b P0) (zel b P0)[i] (.slice Ah hs.length ch) (.slice (some ⟨g,0,none⟩) P0.length cp) wr (HH.out wr HJ.out.2.1) (by have:=Row.of_own HJ.out.2.2;exact this) hl (by rw[markL_len];exact hl2))
     have HLT:=hd_ hlt;generalize (zel b P0)[i]=x at y0 y1 y2 y3 y4 HYES HNOT HPT HOC;have HBD:=hd_ HJ.out.2;clear HJ hml;by_cases h6:x.kind=6
     ·have n6:(x.kind != 6)=false:=by rw[h6];rfl
      have HN:=hd_ (HNOT.out (fun h=>h.1 h6));clear h6 fz;go_wp2_with fail;go_roundw
      case rel=>exact⟨i+1,b,HLT.out,by go_num,hd_ ⟨HN.out,HBD.out.1,HBD.out.2⟩⟩
      case measure=>have:=HLT.out;simp [intOf];omega
     ·have n6:(x.kind != 6)=true:=bne_iff_ne.2 h6;have H6:=hd_ h6;generalize ho:zpi hs (zel b P0) x=o at HYES HNOT HOC;clear h6 fz ho;go_wp2_with fail;refine HOC.out.mono ?_;rintro e w2 ⟨rfl,hb⟩;have HB2:=hd_ hb;have HB3:=hd_ (HBD.out.1.trans (hb.mono (Nat.le_trans HBW.out HBD.out.1.size)));clear hb y0 y1 y2 y3 y4 HOC;cases o with
      | false =>
       have HN:=hd_ (HNOT.out (fun h=>by cases h.2))
       have HO2:=hd_ (z0n HBD.out.2 HB2.out);go_wp2_with fail;go_roundw
       case rel=>exact⟨i+1,b,HLT.out,by go_num,hd_ ⟨HN.out,HB3.out,HO2.out⟩⟩
       case measure=>have:=HLT.out;simp [intOf];omega
      | true =>
       obtain⟨b',hb1,hb2⟩:=HYES.out H6.out rfl;obtain⟨⟨v0,vf⟩,hput⟩:=HPT.out w2 HB2.out;rw[hb2] at hput;have HN:=hd_ hb1;have HP:=hd_ hput;clear hb1 hb2 hput;go_wp2_with fail;go_roundw
       case rel=>exact⟨i+1,b',HLT.out,by go_num,hd_ ⟨HN.out,HB3.out.setCell hBg _,HP.out⟩⟩
       case measure=>have:=HLT.out;simp [intOf];omega
    ·obtain rfl:i=P0.length:=by omega
     have HN:=hd_ (zpg HJ.out.1);have HBD:=hd_ HJ.out.2;clear HJ;go_wp2_with fail;go_roundw
     case rel=>exact⟨r+1,b,HRL.out,by go_num,hd_ ⟨HN.out,HBD.out.1,HBD.out.2⟩⟩
     case measure=>have:=HRL.out;simp [intOf];omega
  ·obtain rfl:r=P0.length:=by omega
   have he:=rd_end HI.out.1;subst he;have HF:=hd_ (HR.out wr HI.out.2.1 HI.out.2.2);clear HI;go_wp2_with fail;exact HF.out
theorem zqb {out:List Hav}{x:Syn}{a:Hav}(h:a∈zq1 out x):a∈out∨a.path=x.path:=by
 unfold zq1 at h;split at h
 ·rcases zlh _ _ _ h with rfl | h
  ·exact .inr rfl
  ·exact .inl h
 ·split at h
  ·exact .inl (List.mem_filter.1 h).1
  ·exact .inl h
theorem zqc {x:Syn}(h:zq2 x):(x.kind=1∨x.kind=2∨x.kind=3)∨x.kind=4∨(x.kind=5∨x.kind=6):=by
 rcases h with h | ⟨h,hne⟩
 ·unfold z3o at h;simp only[Bool.or_eq_true,beq_iff_eq] at h
  exact .inr (.inr (by omega))
 ·rcases zq3 _ _ hne with⟨-,h1⟩ | ⟨-,h1⟩
  ·rw[← h] at h1;exact .inl h1
  ·rw[← h] at h1;exact .inr (.inl h1)
theorem zqd (hs:List Hav)(ps:List Syn)(hv pv:Value)(w:World)(he:Env w)(hH:z4b w hv hs)(hS:z4z w pv ps)(h1:z6c hs)(h2:∀ a∈hs,z2s a.path=true∧a.path.size≤1000000)(h3:z6d ps)(h4:∀ x∈ps,z2s x.path=true∧x.path.size≤1000000∧zq2 x)(hl:hs.length+ps.length≤300000):
  Calls prog 51 #[hv,pv] w fun e w'=>∃ v,e=.returned v∧z4b w' v (z4y hs ps)∧Below w.heap.size w w':=by
 obtain⟨Ah,ch,rfl,-⟩:=id hH;obtain⟨Ap,cp,rfl,-⟩:=id hS;have HE:=hd_ he;have HH:=hd_ hH;have HS:=hd_ hS;have HSRT:=hd_ h3;have H4:=hd_ h4;have HEND:=hd_ (fun out (h:zq5 hs ps ps.length out)=>aft_end h h1 (fun a ha=>(h2 a ha).1) h3 (fun x hx=>(h4 x hx).1));have HST0:=hd_ (aft_0 (ps:=ps) h1 (fun a ha=>(h2 a ha).1));have HSZ0:Hid (∀ a∈hs,a.path.size≤1000000):=hd_ fun a ha=>(h2 a ha).2;have HDO:Hid (∀ v∈hs.flatMap Hav.cells,v.oneCell'=true):=hd_ (zls _);clear he hH hS h1 h2 h3 h4;go_enter func51,ntmps51;go_wp2_with (at_builtin;refine z0j (base:=w.heap.size) rfl rfl z54 (World.ownsRow_nil _ _ _ _) rfl HH.out rfl HDO.out (by omega) (by unfold maxLen;omega) (Nat.le_refl _) ?_;intro A6 c6 w6 hO6 hG6 hw6)
 have hX6:=zlv hG6 rfl;rw[Nat.zero_add,List.nil_append] at hO6;have HO6:Hid (z4b w6 (.slice A6 hs.length c6) hs):=hd_ (Row.of_own hO6);have HX6:=hd_ hX6;clear hO6 hG6 hw6 hX6;go_loopw [5,6] (fun o i wr=>∃(k:Nat) (out:List Hav) (A:Option Addr) (c:Nat),k≤ps.length∧o=.slice A out.length c∧i=.int .i64 k∧Hid (zq5 hs ps k out∧(∀ a∈out,a.path.size≤1000000)∧Below w.heap.size w wr∧z4b wr (.slice A out.length c) out)) (fun _ i _=>ps.length - (intOf i).toNat)
 case atStart=>exact⟨0,hs,A6,c6,Nat.zero_le _,rfl,rfl,hd_ ⟨HST0.out,HSZ0.out,HX6.out,HO6.out⟩⟩
 case round =>
  obtain⟨k,out,A,c,hk,rfl,rfl,HI⟩:=hrel;by_cases hlt:k<ps.length
  ·obtain⟨ad,rfl,hab,y0,y1,y2,y3,y4⟩:=z4z.at_ (HS.out.below HI.out.2.2.1) hlt;have h4x:=H4.out ps[k] (List.getElem_mem hlt);have HN:=hd_ (zq8 HI.out.1 HSRT.out hlt h4x.1 h4x.2.2);generalize ps[k]=x at y0 y1 y2 y3 y4 h4x HN;have hkw:=zqc h4x.2.2;have hol:out.length≤300000:=by have:=HI.out.1.len;omega
   have HA1:Hid (Below wr.heap.size wr (wr.alloc (.cells #[.int .i64 x.kind,.string x.path,.int .i64 x.num,.string x.frm,.string x.dst] 50))):=hd_ ((Below.refl _ _).alloc (Nat.le_refl _) _);have HBX:=hd_ (z0l wr [.int .i64 x.kind,.string x.path,.int .i64 x.num,.string x.frm,.string x.dst] 50);have HNS:Hid (∀ a∈zq1 out x,a.path.size≤1000000):=hd_ fun a ha=>by
    rcases zqb ha with h | h
    ·exact HI.out.2.1 a h
    ·rw[h];exact h4x.2.1
   have HPUT:Hid (∀ X,Below wr.heap.size wr X→Calls prog 40 #[.slice A out.length c,.agg #[.string x.path,.int .i64 x.num,.string x.dst]] X (zo0 X (zlc out ⟨x.path,x.num,x.dst⟩))):=hd_ fun X hX =>
    zo1 out (.slice A out.length c) ⟨x.path,x.num,x.dst⟩ X (HE.out.below (z0r HI.out.2.2.1 hX)) (HI.out.2.2.2.below hX) (fun a ha=>⟨HI.out.1.val a ha,HI.out.2.1 a ha⟩) h4x.1 h4x.2.1 (by omega)
   have HDR:Hid (∀ X,Below wr.heap.size wr X→Calls prog 98 #[.slice A out.length c,.slice (some ⟨X.heap.size,0,none⟩) 1 1] (X.alloc (.cells #[.string x.path] 9)) (DrPost (X.alloc (.cells #[.string x.path] 9)) (out.filter (fun a=>decide (a.path≠x.path))))):=hd_ fun X hX =>
    zqa out (.slice A out.length c) (some ⟨X.heap.size,0,none⟩) 1 x.path _ ((HI.out.2.2.2.below hX).below ((Below.refl _ _).alloc (Nat.le_refl _) _)) (z0i X [.string x.path] 9 1 1 rfl (by decide) _ rfl) (by omega)
   have HB1:=hd_ (z0r HI.out.2.2.1 HA1.out);have HLT:=hd_ hlt;have HOU:=hd_ (HI.out.2.2.2.below HA1.out);clear hab h4x HI;obtain⟨z0,z1,z2,z3,z4⟩:=z3r (x:=x) HBX.out;have hE1:(x.kind=1∨x.kind=2∨x.kind=3)→zq1 out x=zlc out ⟨x.path,x.num,x.dst⟩:=fun h=>if_pos h;have hE4:x.kind=4→zq1 out x=out.filter (fun a=>decide (a.path≠x.path)):=fun h=>by unfold zq1;rw[if_neg (by omega),if_pos h]
   have hE5:(x.kind=5∨x.kind=6)→zq1 out x=out:=fun h=>by unfold zq1;rw[if_neg (by omega),if_neg (by omega)]
   rcases hkw with hkw | hkw | hkw
   ·have HEQ:=hd_ (hE1 hkw);have hkf:(x.kind == 1)=true∨(x.kind == 1)=false∧((x.kind == 2)=true∨(x.kind == 2)=false∧(x.kind == 3)=true):=by
     rcases hkw with h | h | h <;> rw[h] <;> decide
    have HP1:=hd_ (HPUT.out _ HA1.out);clear hE1 hE4 hE5 hlt hk hkw HPUT HDR;rcases hkf with n1 | ⟨n1,n2 | ⟨n2,n3⟩⟩
    all_goals
     go_wp2_with fail;refine HP1.out.mono ?_;rintro e w3 ⟨v,rfl,ho,hb⟩;obtain⟨A',c',rfl⟩:=z0o ho;have HR:Hid (Below w.heap.size w w3∧z4b w3 (.slice A' (zlc out ⟨x.path,x.num,x.dst⟩).length c') (zlc out ⟨x.path,x.num,x.dst⟩)):=hd_ ⟨z0r HB1.out hb,Row.of_own ho⟩;rw[HEQ.out] at HN HNS;clear ho hb HP1 y0 y1 y2 y3 y4 z0 z1 z2 z3 z4;generalize zlc out ⟨x.path,x.num,x.dst⟩=out2 at HR HN HNS ⊢;go_wp2_with fail;go_roundw
     case rel=>exact⟨k+1,out2,A',c',HLT.out,rfl,by go_num,hd_ ⟨HN.out,HNS.out,HR.out.1,HR.out.2⟩⟩
     case measure=>have:=HLT.out;simp [intOf];omega
   ·have HEQ:=hd_ (hE4 hkw);have n1:(x.kind == 1)=false:=by rw[hkw];decide
    have n2:(x.kind == 2)=false:=by rw[hkw];decide
    have n3:(x.kind == 3)=false:=by rw[hkw];decide
    have n4:(x.kind == 4)=true:=by rw[hkw];decide
    have HP1:=hd_ (HDR.out _ HA1.out);clear hE1 hE4 hE5 hlt hk hkw HPUT HDR;clear HOU HA1;go_upto_region 6 with fail;generalize wr.alloc (.cells #[.int .i64 x.kind,.string x.path,.int .i64 x.num,.string x.frm,.string x.dst] 50)=W1 at HP1 HB1 HBX z0 z1 z2 z3 z4 ⊢;go_wp2_with fail;refine HP1.out.mono ?_;rintro e w3 ⟨v,cc,rfl,ho,hb⟩;dsimp only;obtain⟨A',c',rfl,-⟩:=id ho;have hbs:Below w.heap.size w w3:=z0r (z0r HB1.out ((Below.refl _ _).alloc (Nat.le_refl _) (.cells #[.string x.path] 9))) hb;have HR:Hid (Below w.heap.size w w3∧z4b w3 (.slice A' (out.filter (fun a=>decide (a.path≠x.path))).length c') (out.filter (fun a=>decide (a.path≠x.path)))):=hd_ ⟨hbs,ho⟩;rw[HEQ.out] at HN HNS;clear ho hb hbs HP1 y0 y1 y2 y3 y4 z0 z1 z2 z3 z4;generalize out.filter (fun a=>decide (a.path≠x.path))=out2 at HR HN HNS ⊢;go_wp2_with fail;go_roundw
    case rel=>exact⟨k+1,out2,A',c',HLT.out,rfl,by go_num,hd_ ⟨HN.out,HNS.out,HR.out.1,HR.out.2⟩⟩
    case measure=>have:=HLT.out;simp [intOf];omega
   ·have HEQ:=hd_ (hE5 hkw);have n1:(x.kind == 1)=false:=beq_eq_false_iff_ne.2 (by omega)
    have n2:(x.kind == 2)=false:=beq_eq_false_iff_ne.2 (by omega)
    have n3:(x.kind == 3)=false:=beq_eq_false_iff_ne.2 (by omega)
    have n4:(x.kind == 4)=false:=beq_eq_false_iff_ne.2 (by omega)
    clear hE1 hE4 hE5 hlt hk hkw HPUT HDR;rw[HEQ.out] at HN HNS;go_wp2_with fail;go_roundw
    case rel=>exact⟨k+1,out,A,c,HLT.out,rfl,by go_num,hd_ ⟨HN.out,HNS.out,HB1.out,HOU.out⟩⟩
    case measure=>have:=HLT.out;simp [intOf];omega
  ·obtain rfl:k=ps.length:=by omega
   have HR:=hd_ (HEND.out out HI.out.1);have HIB:=hd_ HI.out.2.2;clear HI;go_wp2_with fail;go_ret;exact⟨_,rfl,by rw[← HR.out];exact HIB.out.2,HIB.out.1⟩
