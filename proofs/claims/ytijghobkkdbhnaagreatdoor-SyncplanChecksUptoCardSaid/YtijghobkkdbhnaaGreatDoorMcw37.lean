/- A part. -/
import Derived.Test.YtijghobkkdbhnaaGreatDoorMcw35
import Derived.Test.YtijghobkkdbhnaaGreatDoorMcw36
set_option linter.unusedVariables false
set_option linter.unusedSimpArgs false
set_option maxHeartbeats 16000000
set_option maxRecDepth 100000
namespace Go.Proofs.YtijghobkkdbhnaaGreatDoor
open Go.Proofs.Tryz
open Go.RowKit
theorem knGrow (w:World):Calls prog 145 #[.slice none 0 0,.int .i64 0] w fun e w'=>e=.returned (.slice none 0 0)∧w=w':=by
 go_enter func145,ntmps145;go_wp2_with fail;go_ret;exact⟨rfl,rfl⟩
theorem zi3 (g:Nat)(w:World)(hB:Blk w g 25 [.slice none 0 0,.slice none 0 0]):Calls prog 84 #[.slice (some ⟨g,0,none⟩) 2 2] w fun e w'=>∃ A c,e=.returned (.slice A 0 c)∧zB w w':=by
 have b0:w.cell? ⟨g,0,none⟩=some (.slice none 0 0):=hB.cell 0;have b1:w.cell? ⟨g,1,none⟩=some (.slice none 0 0):=hB.cell 1;have HB:=hd_ hB;have HG:=hd_ (knGrow w);clear hB;go_enter func84,ntmps84;go_wp2_with fail;refine wp_loop_rounds 3 ?_;rw[rounds_succ];go_wp2_with fail;rw[rounds_succ];go_wp2_with fail;rw[rounds_succ];go_wp2_with fail;refine HG.out.mono ?_;rintro e w1 ⟨rfl,rfl⟩;go_wp2_with fail;refine wp_loop_rounds 3 ?_;rw[rounds_succ];go_wp2_with (at_builtin;refine z0j (base:=w.heap.size) (n:=0) (xs:=[]) (m:=0) (news:=[]) rfl rfl zgf (World.ownsRow_nil _ _ _ _) rfl (z4e.nil_ w) rfl (fun u h=>by cases h) (by omega) (by unfold maxLen;omega) (Nat.le_refl _) ?_;intro A' c' w2 hO2 hG2 hw2)
 have HO2:=hd_ hO2;have HB2:=hd_ (zhz hG2 rfl);have b1:w2.cell? ⟨g,1,none⟩=some (.slice none 0 0):=(HB.out.below HB2.out HB.out.lt).cell 1;clear hO2 hG2 hw2 b0;rw[rounds_succ];go_wp2_with (at_builtin;refine z0j (base:=w.heap.size) (m:=0) (news:=[]) rfl rfl zgf HO2.out rfl (z4e.nil_ w2) rfl (fun u h=>by cases h) (by omega) (by unfold maxLen;omega) HB2.out.size ?_;intro A3 c3 w3 hO3 hG3 hw3)
 have HB3:Hid (zB w w3):=hd_ (HB2.out.grown hG3 HB2.out.size (fun k e=>(HO2.out.lt k e).1));clear hO3 hG3 hw3;rw[rounds_succ];go_wp2_with fail;go_ret;exact⟨_,_,rfl,HB3.out⟩
theorem knSort (A:Option Addr)(c:Nat)(cv:Value)(w:World):Calls prog 86 #[.slice A 0 c,cv] w fun e w'=>e=.returned (.tuple #[])∧w=w':=by
 have H:=hd_ (z62 (.slice A 0 c) cv w);go_enter func86,ntmps86;go_wp2_with fail;refine H.out.mono ?_;rintro e w' ⟨rfl,rfl⟩;go_wp2_with fail;go_end0
 exact⟨rfl,rfl⟩
theorem knClone (w:World):Calls prog 83 #[.slice none 0 0] w fun e w'=>e=.returned (.slice none 0 0)∧w=w':=by
 go_enter func83,ntmps83;have heq:∀ W,(binOp .eql 24 (.slice none 0 0) (.slice none 0 0)).run prog W=.ok (.bool true) W:=fun W=>by kernel_rfl
 go_wp2_with fail;go_ret;exact⟨rfl,rfl⟩
structure KnW (w X:World)(g bl be bn:Nat)(Ae:Option Addr)(ce:Nat):Prop where
 bel:zB w X
 chk:Chk X g (.slice none 0 0) (.slice none 0 0) 1 ⟨#[]⟩ ⟨#[]⟩ (.slice Ae 2 ce) (.slice none 0 0) bl be bn
 last:z7t X bl zg8
 edt:∃ F,z7u X be F
 ne:bl≠be
 le:w.heap.size≤be
theorem knNew (Ae:Option Addr)(ce:Nat)(w:World):Calls prog 81 #[.agg #[.slice none 0 0,.slice none 0 0],.agg #[.int .i64 1,.string ⟨#[]⟩,.string ⟨#[]⟩,.slice Ae 2 ce,.slice none 0 0]] w fun e w'=>∃ g bl be bn,e=.returned (.pointer (some ⟨g,0,none⟩))∧KnW w w' g bl be bn Ae ce:=by
 have hmm:=@run_makeMap prog;go_enter func81,ntmps81;go_wp2_with fail;refine wp_loop_rounds 1 ?_;rw[rounds_succ];go_wp2_with fail;go_ret;refine⟨w.heap.size+1+1+1+1+1,w.heap.size+1+1,w.heap.size+1+1+1,w.heap.size+1+1+1+1,rfl,((((((Below.refl _ _).alloc (Nat.le_refl _) _).alloc (by simp) _).alloc (by simp;omega) _).alloc (by simp;omega) _).alloc (by simp;omega) _).alloc (by simp;omega) _,?_,?_,⟨fun _=>none,?_⟩,?_,?_⟩
 case refine_1=>
  have:=z0l (((((w.alloc (.cells #[.slice none 0 0,.slice none 0 0] 27)).alloc (.cells #[.int .i64 1,.string ⟨#[]⟩,.string ⟨#[]⟩,.slice Ae 2 ce,.slice none 0 0] 105)).alloc (.map #[] 0)).alloc (.map #[] 0)).alloc (.map #[] 0)) [.slice none 0 0,.slice none 0 0,.int .i64 1,.string ⟨#[]⟩,.string ⟨#[]⟩,.slice Ae 2 ce,.slice none 0 0,.map (some (w.heap.size+1+1)),.map (some (w.heap.size+1+1+1)),.map (some (w.heap.size+1+1+1+1))] 204;simp only[World.size_alloc] at this
  exact this
 case refine_2 =>
  have:=z2k.new Value.string Rev.val ((w.alloc (.cells #[.slice none 0 0,.slice none 0 0] 27)).alloc (.cells #[.int .i64 1,.string ⟨#[]⟩,.string ⟨#[]⟩,.slice Ae 2 ce,.slice none 0 0] 105));simp only[World.size_alloc] at this
  exact z2k.alloc (z2k.alloc (z2k.alloc this _) _) _
 case refine_3 =>
  have:=z2k.new Value.string Edt.val (((w.alloc (.cells #[.slice none 0 0,.slice none 0 0] 27)).alloc (.cells #[.int .i64 1,.string ⟨#[]⟩,.string ⟨#[]⟩,.slice Ae 2 ce,.slice none 0 0] 105)).alloc (.map #[] 0));simp only[World.size_alloc] at this
  exact z2k.alloc (z2k.alloc this _) _
 case refine_4=>omega
 case refine_5=>omega
theorem knSteps (g:Nat)(w:World):Calls prog 82 #[.pointer (some ⟨g,0,none⟩)] w fun e w'=>e=.returned (.slice (some ⟨w.heap.size,0,none⟩) 5 5)∧zB w w'∧Blk w' w.heap.size 152 [.func (.func 140) #[.pointer (some ⟨g,0,none⟩)] #[],.func (.func 141) #[.pointer (some ⟨g,0,none⟩)] #[],.func (.func 142) #[.pointer (some ⟨g,0,none⟩)] #[],.func (.func 143) #[.pointer (some ⟨g,0,none⟩)] #[],.func (.func 144) #[.pointer (some ⟨g,0,none⟩)] #[]]:=by
 go_enter func82,ntmps82;go_wp2_with fail;go_ret;exact⟨rfl,(Below.refl _ _).alloc (Nat.le_refl _) _,z0l w _ _⟩
theorem zi4 (p:ByteArray)(g bl be bn:Nat)(Ae:Option Addr)(ce:Nat)(w:World)(hk:Chk w g (.slice none 0 0) (.slice none 0 0) 1 ⟨#[]⟩ ⟨#[]⟩ (.slice Ae 2 ce) (.slice none 0 0) bl be bn)(hL:z7t w bl zg8):Calls prog 85 #[.pointer (some ⟨g,0,none⟩),.agg #[.string p,.int .i64 1,.int .i64 1,.bool false,.bool false,.bool false,.int .u64 1,.int .i64 1,.int .i64 0,.string ⟨#[]⟩,.int .i64 0,.int .i64 0]] w fun e w'=>e=.returned (.agg #[.string p,.int .i64 1,.int .i64 1,.int .i64 1,.int .i64 1,.bool false,.bool false,.bool false,.int .u64 1,.int .i64 1,.string ⟨#[]⟩,.int .i64 0])∧zB w w':=
 zhe zg8 (knE p) g _ _ _ _ 1 _ _ bl be bn w hk hL (Int.le_refl 0) (show (0:Int)≤1000000 by decide)
section
variable {u0 u1 u2 u3 u4 u5 u6 u7 u8 u9 gA gC gD gE gF gG gH gI gJ gK gL gM gN gO gP gQ gR gT gV gW gX gY gZ i6 i7 i8 ia ib ic ie ig ii ij ik il im io ip iq ir iu iv iw ix iy iz iA iB iC iD : Value}
theorem knR13 (ops:Array Oper)(hops:Tryz.f41.body.bind (z0x 13)=some ops)(Q:Exit→Act→World→Prop)(g g10 ge n:Nat)(p:ByteArray)(v1 v2:Value)(xs:List Value)(V V1:World)
  (hR:WaR V V1 g10 v1 v2 n xs) (hB:Blk V1 ge 100 [.string p,.int .i64 1,.int .i64 1,.bool false,.bool false,.bool false,.int .u64 1,.int .i64 1,.int .i64 0,.string ⟨#[]⟩,.int .i64 0,.int .i64 0]) (hn:n≤100000)
  (hrev:∀ X,zB V1 X→Calls prog 85 #[.pointer (some ⟨g,0,none⟩),.agg #[.string p,.int .i64 1,.int .i64 1,.bool false,.bool false,.bool false,.int .u64 1,.int .i64 1,.int .i64 0,.string ⟨#[]⟩,.int .i64 0,.int .i64 0]] X fun e w'=>e=.returned (.agg #[.string p,.int .i64 1,.int .i64 1,.int .i64 1,.int .i64 1,.bool false,.bool false,.bool false,.int .u64 1,.int .i64 1,.string ⟨#[]⟩,.int .i64 0])∧zB X w')
  (hQ:∀(fh fi fj fk fm fp fq ft:Value) (v3:Value) (w':World),Hid (WaR V w' g10 v3 v2 (n+1) (xs++[.string p,.int .i64 1,.int .i64 1,.int .i64 1,.int .i64 1,.bool false,.bool false,.bool false,.int .u64 1,.int .i64 1,.string ⟨#[]⟩,.int .i64 0]))→Q .normal ⟨#[u0,u1,u2,u3,u4,u5,.pointer (some ⟨g,0,none⟩),u7,u8,u9,.pointer (some ⟨g10,0,none⟩),gC,.pointer (some ⟨ge,0,none⟩),gE,gF,gG,gH,gI,gJ,gK,gL,gM,gN,gO,gP,gQ,gR,gT,gV,gW,gX,gY,gZ,i6,i7,i8,ia,ib,ic,ie,ig,ii,ij,ik,il,im,io,fh,fi,fj,fk,fm,fp,fq,ft,iz,iA,iB,iC,iD],[]⟩ w'):
  (Code.region 13 ops true).wp prog Q ⟨#[u0,u1,u2,u3,u4,u5,.pointer (some ⟨g,0,none⟩),u7,u8,u9,.pointer (some ⟨g10,0,none⟩),gC,.pointer (some ⟨ge,0,none⟩),gE,gF,gG,gH,gI,gJ,gK,gL,gM,gN,gO,gP,gQ,gR,gT,gV,gW,gX,gY,gZ,i6,i7,i8,ia,ib,ic,ie,ig,ii,ij,ik,il,im,io,ip,iq,ir,iu,iv,iw,ix,iy,iz,iA,iB,iC,iD],[]⟩ V1:=by
 simp only[Tryz.f41,Option.bind_some,z0x] at hops
 simp at hops
 subst hops;obtain⟨A1,c1,hv1⟩:=z0o hR.one;subst hv1;have HQ:=hd_ hQ;have HR:=hd_ hR;have HRV2:=hd_ hrev;have f0:V1.cell? ⟨g10,0,none⟩=some (.slice A1 n c1):=hR.box.cell 0;obtain⟨c0,c1',c2,c3,c4,c5,c6,c7,c8,c9,c10,c11⟩:=z81 hB;clear hQ hR hB hrev;refine wp_region_noPanic ?_;go_region_law (first
  | (refine z0t rfl rfl zge (z0n (z0n HR.out.one hS5) ((Below.refl _ _).alloc (Nat.le_refl _) _)) (by simp [Act.eval,Act.put]) (z0i w5 [.string p,.int .i64 1,.int .i64 1,.int .i64 1,.int .i64 1,.bool false,.bool false,.bool false,.int .u64 1,.int .i64 1,.string ⟨#[]⟩,.int .i64 0] _ 12 1 rfl (by decide) _ rfl) (by simp [Act.eval,Act.put]) (by simp [Value.oneCell']) (by omega) (by unfold maxLen;omega) (by have:=hS5.size;have:=HR.out.bel.size;simp;omega) ?_;intro A6 c6' w6 hO6 hG6 hw6;have hbx:=(HR.out.box.below (z0r hS5 ((Below.refl _ _).alloc (Nat.le_refl _) _)) HR.out.box.lt).grown hG6 (fun e=>HR.out.ne1 e.symm);obtain⟨b0,b1,g0,g1⟩:=box2 hbx)
  | (go_simp;go_at_call 85;refine (HRV2.out _ (Below.refl _ _).drew).mono ?_;rintro e w5 ⟨rfl,hX5⟩;have hS5:zB V1 w5:=(Below.refl _ _).drew.trans hX5;have f5:w5.cell? ⟨g10,0,none⟩=some (.slice A1 n c1):=(HR.out.box.below hS5 HR.out.box.lt).cell 0;have f6:(w5.alloc (.cells #[.string p,.int .i64 1,.int .i64 1,.int .i64 1,.int .i64 1,.bool false,.bool false,.bool false,.int .u64 1,.int .i64 1,.string ⟨#[]⟩,.int .i64 0] 90)).cell? ⟨g10,0,none⟩=some (.slice A1 n c1):=(HR.out.box.below (hS5.alloc hS5.size _) HR.out.box.lt).cell 0)
  | fail)
 all_goals exact NoPanic.normal (HQ.out _ _ _ _ _ _ _ _ _ _ (HR.out.push (z0r hS5 ((Below.refl _ _).alloc (Nat.le_refl _) _)) hO6 hG6 hw6))
theorem knR9 (ops:Array Oper)(hops:Tryz.f41.body.bind (z0x 9)=some ops)(Q:Exit→Act→World→Prop)(gd gc:Nat)(ev:Value)(V:World)
  (hD:Blk V gd 27 [.slice none 0 0,.slice none 0 0]) (hC:Blk V gc 105 [.int .i64 1,.string ⟨#[]⟩,.string ⟨#[]⟩,ev,.slice none 0 0])
  (hQ:∀(eN eO eP eQ eR eS eT eU eV eW:Value) (g10:Nat) (v2:Value) (w':World),Hid (WaR V w' g10 (.slice none 0 0) v2 0 []∧∃ A c,v2=.slice A 0 c)→Q .normal ⟨#[u0,u1,.pointer (some ⟨gd,0,none⟩),.pointer (some ⟨gc,0,none⟩),u4,u5,u6,u7,u8,u9,.pointer (some ⟨g10,0,none⟩),gC,gD,gE,gF,gG,gH,gI,gJ,gK,gL,gM,gN,gO,gP,gQ,gR,gT,gV,gW,eN,eO,eP,eQ,eR,eS,eT,eU,eV,eW,ig,ii,ij,ik,il,im,io,ip,iq,ir,iu,iv,iw,ix,iy,iz,iA,iB,iC,iD],[]⟩ w'):
  (Code.region 9 ops true).wp prog Q ⟨#[u0,u1,.pointer (some ⟨gd,0,none⟩),.pointer (some ⟨gc,0,none⟩),u4,u5,u6,u7,u8,u9,gA,gC,gD,gE,gF,gG,gH,gI,gJ,gK,gL,gM,gN,gO,gP,gQ,gR,gT,gV,gW,gX,gY,gZ,i6,i7,i8,ia,ib,ic,ie,ig,ii,ij,ik,il,im,io,ip,iq,ir,iu,iv,iw,ix,iy,iz,iA,iB,iC,iD],[]⟩ V:=by
 simp only[Tryz.f41,Option.bind_some,z0x] at hops
 simp at hops
 subst hops;have HQ:=hd_ hQ;have HC:Hid (∀ X,zB V X→X.cell? ⟨gd,0,none⟩=some (.slice none 0 0)∧X.cell? ⟨gd,1,none⟩=some (.slice none 0 0)∧X.cell? ⟨gc,4,none⟩=some (.slice none 0 0)):=hd_ fun X hX=>⟨(hD.below hX hD.lt).cell 0,(hD.below hX hD.lt).cell 1,(hC.below hX hC.lt).cell 4⟩;obtain⟨x0,x1,x2⟩:=HC.out V (Below.refl _ _);clear hQ hD hC;go_region_held3 (fun w'=>zB V w'∧w'.cell? ⟨gd,0,none⟩=some (.slice none 0 0)∧w'.cell? ⟨gd,1,none⟩=some (.slice none 0 0)∧w'.cell? ⟨gc,4,none⟩=some (.slice none 0 0))
  ((refine z3s ?_ (HC.out _);repeat (first | with_reducible assumption | with_reducible exact Below.refl _ _ | with_reducible refine Below.drew ?_ | with_reducible refine z0u ?_ _ | refine Below.setCell ?_ (by first | exact hS6.size | exact hle | (have:=hS6.size;simp;omega) | (simp;done)) _)))
  (first
   | (go_at_call 83;refine (knClone _).mono ?_;rintro e w5 ⟨rfl,rfl⟩)
   | (go_at_call 84;refine (zi3 _ _ (by first | exact z0l _ _ _ | exact Blk.drew' (z0l _ _ _) | exact Blk.alloc (z0l _ _ _) _ | exact Blk.alloc (Blk.drew' (z0l _ _ _)) _ | exact Blk.drew' (Blk.alloc (z0l _ _ _) _) | exact z0w (by simp) | exact Blk.drew' (z0w (by simp)))).mono ?_;rintro e w6 ⟨A6,c6,rfl,hX6⟩;have hS6:zB V w6:=(by repeat (first | exact Below.refl _ _ | refine Below.drew ?_ | refine z0u ?_ _):zB V _).trans (hX6.mono (by simp;try omega));(first | (have hblk:=Blk.below (g:=V.heap.size) (e:=27) (cs:=[.slice none 0 0,.slice none 0 0]) (by first | exact z0l V _ _ | exact Blk.drew' (z0l V _ _) | exact Blk.alloc (z0l V _ _) _ | exact Blk.alloc (Blk.drew' (z0l V _ _)) _ | exact Blk.drew' (Blk.alloc (z0l V _ _) _)) hX6 (by simp;try omega);have hle:V.heap.size≤V.heap.size:=Nat.le_refl _;obtain⟨r0,r1,f0,f1⟩:=box2 hblk) | (have hblk:=Blk.below (g:=V.heap.size+1) (e:=27) (cs:=[.slice none 0 0,.slice none 0 0]) (by first | exact z0w (by simp) | exact Blk.drew' (z0w (by simp))) hX6 (by simp;try omega);have hle:V.heap.size≤V.heap.size+1:=Nat.le_succ _;obtain⟨r0,r1,f0,f1⟩:=box2 hblk) | skip)))
 all_goals first
  | exact HQ.out _ _ _ _ _ _ _ _ _ _ _ _ _ ⟨⟨hS6.alloc hS6.size _,hS6.size,z0l w6 _ _,World.ownsRow_nil _ _ _ _,(fun e=>by cases e)⟩,A6,c6,rfl⟩
  | exact HQ.out _ _ _ _ _ _ _ _ _ _ _ _ _ ⟨⟨(hS6.setCell hle _).setCell hle _,hle,(hblk.set_ 0 _).set_ 1 _,World.ownsRow_nil _ _ _ _,(fun e=>by cases e)⟩,A6,c6,rfl⟩
end
open Go.Sort (grow)
theorem zpr {out:List Hav}{x:Syn}{a:Hav}(h:a∈zpb out x):a∈out∨a.path=x.path:=by
 unfold zpb at h;split at h
 ·rcases zlb _ _ _ h with rfl | h
  ·exact .inr rfl
  ·exact .inl h
 ·split at h
  ·exact .inl (List.mem_filter.1 h).1
  ·exact .inl h
theorem zps {x:Syn}(h:zpc x):(x.kind=1∨x.kind=2∨x.kind=3)∨x.kind=4∨(x.kind=5∨x.kind=6):=by
 rcases h with h | ⟨h,hne⟩
 ·unfold z3t at h;simp only[Bool.or_eq_true,beq_iff_eq] at h
  exact .inr (.inr (by omega))
 ·rcases zpd _ _ hne with⟨-,h1⟩ | ⟨-,h1⟩
  ·rw[← h] at h1;exact .inl h1
  ·rw[← h] at h1;exact .inr (.inl h1)
theorem zpt (hs:List Hav)(ps:List Syn)(hv pv:Value)(w:World)(he:Env w)(hH:z4h w hv hs)(hS:z57 w pv ps)(h1:z6i hs)(h2:∀ a∈hs,z2x a.path=true∧a.path.size≤1000000)(h3:z6j ps)(h4:∀ x∈ps,z2x x.path=true∧x.path.size≤1000000∧zpc x)(hl:hs.length+ps.length≤300000):
  Calls prog 51 #[hv,pv] w fun e w'=>∃ v,e=.returned v∧z4h w' v (z56 hs ps)∧zB w w':=by
 obtain⟨Ah,ch,rfl,-⟩:=id hH;obtain⟨Ap,cp,rfl,-⟩:=id hS;have HE:=hd_ he;have HH:=hd_ hH;have HS:=hd_ hS;have HSRT:=hd_ h3;have H4:=hd_ h4;have HEND:=hd_ (fun out (h:zpf hs ps ps.length out)=>aft_end h h1 (fun a ha=>(h2 a ha).1) h3 (fun x hx=>(h4 x hx).1));have HST0:=hd_ (aft_0 (ps:=ps) h1 (fun a ha=>(h2 a ha).1));have HSZ0:Hid (∀ a∈hs,a.path.size≤1000000):=hd_ fun a ha=>(h2 a ha).2;have HDO:Hid (∀ v∈hs.flatMap Hav.cells,v.oneCell'=true):=hd_ (zlm _);clear he hH hS h1 h2 h3 h4;go_enter func51,ntmps51;go_wp2_with (at_builtin;refine z0j (base:=w.heap.size) rfl rfl z5a (World.ownsRow_nil _ _ _ _) rfl HH.out rfl HDO.out (by omega) (by unfold maxLen;omega) (Nat.le_refl _) ?_;intro A6 c6 w6 hO6 hG6 hw6)
 have hX6:=zlp hG6 rfl;rw[Nat.zero_add,List.nil_append] at hO6;have HO6:Hid (z4h w6 (.slice A6 hs.length c6) hs):=hd_ (Row.of_own hO6);have HX6:=hd_ hX6;clear hO6 hG6 hw6 hX6;go_loopw [5,6] (fun o i wr=>∃(k:Nat) (out:List Hav) (A:Option Addr) (c:Nat),k≤ps.length∧o=.slice A out.length c∧i=.int .i64 k∧Hid (zpf hs ps k out∧(∀ a∈out,a.path.size≤1000000)∧zB w wr∧z4h wr (.slice A out.length c) out)) (fun _ i _=>ps.length - (intOf i).toNat)
 case atStart=>exact⟨0,hs,A6,c6,Nat.zero_le _,rfl,rfl,hd_ ⟨HST0.out,HSZ0.out,HX6.out,HO6.out⟩⟩
 case round =>
  obtain⟨k,out,A,c,hk,rfl,rfl,HI⟩:=hrel;by_cases hlt:k<ps.length
  ·obtain⟨ad,rfl,hab,y0,y1,y2,y3,y4⟩:=z57.at_ (HS.out.below HI.out.2.2.1) hlt;have h4x:=H4.out ps[k] (List.getElem_mem hlt);have HN:=hd_ (zpi HI.out.1 HSRT.out hlt h4x.1 h4x.2.2);generalize ps[k]=x at y0 y1 y2 y3 y4 h4x HN;have hkw:=zps h4x.2.2;have hol:out.length≤300000:=by have:=HI.out.1.len;omega
   have HA1:Hid (zB wr (wr.alloc (.cells #[.int .i64 x.kind,.string x.path,.int .i64 x.num,.string x.frm,.string x.dst] 50))):=hd_ ((Below.refl _ _).alloc (Nat.le_refl _) _);have HBX:=hd_ (z0l wr [.int .i64 x.kind,.string x.path,.int .i64 x.num,.string x.frm,.string x.dst] 50);have HNS:Hid (∀ a∈zpb out x,a.path.size≤1000000):=hd_ fun a ha=>by
    rcases zpr ha with h | h
    ·exact HI.out.2.1 a h
    ·rw[h];exact h4x.2.1
   have HPUT:Hid (∀ X,zB wr X→Calls prog 40 #[.slice A out.length c,.agg #[.string x.path,.int .i64 x.num,.string x.dst]] X (zny X (zl6 out ⟨x.path,x.num,x.dst⟩))):=hd_ fun X hX =>
    znz out (.slice A out.length c) ⟨x.path,x.num,x.dst⟩ X (HE.out.below (z0r HI.out.2.2.1 hX)) (HI.out.2.2.2.below hX) (fun a ha=>⟨HI.out.1.val a ha,HI.out.2.1 a ha⟩) h4x.1 h4x.2.1 (by omega)
   have HDR:Hid (∀ X,zB wr X→Calls prog 98 #[.slice A out.length c,.slice (some ⟨X.heap.size,0,none⟩) 1 1] (X.alloc (.cells #[.string x.path] 9)) (DrPost (X.alloc (.cells #[.string x.path] 9)) (out.filter (fun a=>decide (a.path≠x.path))))):=hd_ fun X hX =>
    zpq out (.slice A out.length c) (some ⟨X.heap.size,0,none⟩) 1 x.path _ ((HI.out.2.2.2.below hX).below ((Below.refl _ _).alloc (Nat.le_refl _) _)) (z0i X [.string x.path] 9 1 1 rfl (by decide) _ rfl) (by omega)
   have HB1:=hd_ (z0r HI.out.2.2.1 HA1.out);have HLT:=hd_ hlt;have HOU:=hd_ (HI.out.2.2.2.below HA1.out);clear hab h4x HI;obtain⟨z0,z1,z2,z3,z4⟩:=z3w (x:=x) HBX.out;have hE1:(x.kind=1∨x.kind=2∨x.kind=3)→zpb out x=zl6 out ⟨x.path,x.num,x.dst⟩:=fun h=>if_pos h;have hE4:x.kind=4→zpb out x=out.filter (fun a=>decide (a.path≠x.path)):=fun h=>by unfold zpb;rw[if_neg (by omega),if_pos h]
   have hE5:(x.kind=5∨x.kind=6)→zpb out x=out:=fun h=>by unfold zpb;rw[if_neg (by omega),if_neg (by omega)]
   rcases hkw with hkw | hkw | hkw
   ·have HEQ:=hd_ (hE1 hkw);have hkf:(x.kind == 1)=true∨(x.kind == 1)=false∧((x.kind == 2)=true∨(x.kind == 2)=false∧(x.kind == 3)=true):=by
     rcases hkw with h | h | h <;> rw[h] <;> decide
    have HP1:=hd_ (HPUT.out _ HA1.out);clear hE1 hE4 hE5 hlt hk hkw HPUT HDR;rcases hkf with n1 | ⟨n1,n2 | ⟨n2,n3⟩⟩
    all_goals
     go_wp2_with fail;refine HP1.out.mono ?_;rintro e w3 ⟨v,rfl,ho,hb⟩;obtain⟨A',c',rfl⟩:=z0o ho;have HR:Hid (zB w w3∧z4h w3 (.slice A' (zl6 out ⟨x.path,x.num,x.dst⟩).length c') (zl6 out ⟨x.path,x.num,x.dst⟩)):=hd_ ⟨z0r HB1.out hb,Row.of_own ho⟩;rw[HEQ.out] at HN HNS;clear ho hb HP1 y0 y1 y2 y3 y4 z0 z1 z2 z3 z4;generalize zl6 out ⟨x.path,x.num,x.dst⟩=out2 at HR HN HNS ⊢;go_wp2_with fail;go_roundw
     case rel=>exact⟨k+1,out2,A',c',HLT.out,rfl,by go_num,hd_ ⟨HN.out,HNS.out,HR.out.1,HR.out.2⟩⟩
     case measure=>have:=HLT.out;simp [intOf];omega
   ·have HEQ:=hd_ (hE4 hkw);have n1:(x.kind == 1)=false:=by rw[hkw];decide
    have n2:(x.kind == 2)=false:=by rw[hkw];decide
    have n3:(x.kind == 3)=false:=by rw[hkw];decide
    have n4:(x.kind == 4)=true:=by rw[hkw];decide
    have HP1:=hd_ (HDR.out _ HA1.out);clear hE1 hE4 hE5 hlt hk hkw HPUT HDR;clear HOU HA1;go_upto_region 6 with fail;generalize wr.alloc (.cells #[.int .i64 x.kind,.string x.path,.int .i64 x.num,.string x.frm,.string x.dst] 50)=W1 at HP1 HB1 HBX z0 z1 z2 z3 z4 ⊢;go_wp2_with fail;refine HP1.out.mono ?_;rintro e w3 ⟨v,cc,rfl,ho,hb⟩;dsimp only;obtain⟨A',c',rfl,-⟩:=id ho;have hbs:zB w w3:=z0r (z0r HB1.out ((Below.refl _ _).alloc (Nat.le_refl _) (.cells #[.string x.path] 9))) hb;have HR:Hid (zB w w3∧z4h w3 (.slice A' (out.filter (fun a=>decide (a.path≠x.path))).length c') (out.filter (fun a=>decide (a.path≠x.path)))):=hd_ ⟨hbs,ho⟩;rw[HEQ.out] at HN HNS;clear ho hb hbs HP1 y0 y1 y2 y3 y4 z0 z1 z2 z3 z4;generalize out.filter (fun a=>decide (a.path≠x.path))=out2 at HR HN HNS ⊢;go_wp2_with fail;go_roundw
    case rel=>exact⟨k+1,out2,A',c',HLT.out,rfl,by go_num,hd_ ⟨HN.out,HNS.out,HR.out.1,HR.out.2⟩⟩
    case measure=>have:=HLT.out;simp [intOf];omega
   ·have HEQ:=hd_ (hE5 hkw);have n1:(x.kind == 1)=false:=beq_eq_false_iff_ne.2 (by omega)
    have n2:(x.kind == 2)=false:=beq_eq_false_iff_ne.2 (by omega)
    have n3:(x.kind == 3)=false:=beq_eq_false_iff_ne.2 (by omega)
    have n4:(x.kind == 4)=false:=beq_eq_false_iff_ne.2 (by omega)
    clear hE1 hE4 hE5 hlt hk hkw HPUT HDR;rw[HEQ.out] at HN HNS;go_wp2_with fail;go_roundw
    case rel=>exact⟨k+1,out,A,c,HLT.out,rfl,by go_num,hd_ ⟨HN.out,HNS.out,HB1.out,HOU.out⟩⟩
    case measure=>have:=HLT.out;simp [intOf];omega
  ·obtain rfl:k=ps.length:=by omega
   have HR:=hd_ (HEND.out out HI.out.1);have HIB:=hd_ HI.out.2.2;clear HI;go_wp2_with fail;go_ret;exact⟨_,rfl,by rw[← HR.out];exact HIB.out.2,HIB.out.1⟩
theorem stT21 (T:Code)(hT:Tryz.f50.body.bind (zhg 21)=some T)(R:Ending→World→Prop)(W:World)(B:Nat)(hs:List Hav)(P0:List Syn)(Ah Ap:Option Addr)(ch cp:Nat)
  (hH:∀ X,Below B W X→z4h X (.slice Ah hs.length ch) hs) (hO:zj7 W B (.slice Ap P0.length cp) P0) (hB:B≤W.heap.size) (h1:zek hs) (hsrt:z6j P0) (hl:hs.length≤1000000) (hl2:P0.length≤1000000)
  (hR:∀ X,Below B W X→zj7 X B (.slice Ap P0.length cp) (zdz (blB hs P0) P0)→R (.returned (.slice Ap P0.length cp)) X)
  (u0 u2 u3 u4 u5 u6 u7 u8 gA gC gD gE gF gG gH gI gJ gK gL gM gN gO gP gQ gR gT gV gW gX gY gZ i6 i7 i8 ia ib ic ie ig ii ij ik il im io ip iq ir iu iv iw ix iy iz iA iB iC iD iE iF iG iH iI iJ iK iL iM iN iO iP iQ iR iS iT iU iV iW iX iY iZ j0 j1 j2 j5 j6 j7 j8 j9 jb jd jf jg jh ji jj jk jl jm bE bF bG bH bI bJ bK bL bM bN bO bP bQ bT bU bV bW bX bY bZ cj ck cn cx cy cz cA cB cD cG cH cI cJ cM cN cO cP cQ cR cT cU cW cX cY cZ da dc dd de df dg dh di dj dm du dw dx dy dz dA:Value):
  T.wp prog (bodyPost prog Tryz.f50 R) ⟨#[u0,.slice Ah hs.length ch,u2,u3,u4,u5,u6,u7,u8,.slice Ap P0.length cp,gA,gC,gD,gE,gF,gG,gH,gI,gJ,gK,gL,gM,gN,gO,gP,gQ,gR,gT,gV,gW,gX,gY,gZ,i6,i7,i8,ia,ib,ic,ie,ig,ii,ij,ik,il,im,io,ip,iq,ir,iu,iv,iw,ix,iy,iz,iA,iB,iC,iD,iE,iF,iG,iH,iI,iJ,iK,iL,iM,iN,iO,iP,iQ,iR,iS,iT,iU,iV,iW,iX,iY,iZ,j0,j1,j2,j5,j6,j7,j8,j9,jb,jd,jf,jg,jh,ji,jj,jk,jl,jm,bE,bF,bG,bH,bI,bJ,bK,bL,bM,bN,bO,bP,bQ,bT,bU,bV,bW,bX,bY,bZ,cj,ck,cn,cx,cy,cz,cA,cB,cD,cG,cH,cI,cJ,cM,cN,cO,cP,cQ,cR,cT,cU,cW,cX,cY,cZ,da,dc,dd,de,df,dg,dh,di,dj,dm,du,dw,dx,dy,dz,dA],[]⟩ W:=by
 simp only[Tryz.f50,Option.bind_some,zhg,zhf] at hT
 simp at hT
 subst hT;have HH:=hd_ hH;have HR:=hd_ hR;have HOK:=hd_ h1;have HSRT:=hd_ hsrt;have HBW:=hd_ hB;have hO0:zj7 W B (.slice Ap P0.length cp) (zdz (fun _=>false) P0):=by
  have e:zdz (fun _=>false) P0=P0:=by unfold zdz zdy;simp
  rw[e];exact hO
 have HO:=hd_ hO0;clear hH hR h1 hsrt hO hO0;go_wp2_with fail;go_loopw [20] (fun s wr=>∃(r:Nat) (b:ByteArray→Bool),r≤P0.length∧s=.int .i64 r∧Hid (zqf hs P0 r 0 b∧Below B W wr∧zj7 wr B (.slice Ap P0.length cp) (zdz b P0))) (fun s _=>P0.length - (intOf s).toNat)
 case atStart=>exact⟨0,_,Nat.zero_le _,rfl,hd_ ⟨rd_init _ _,Below.refl _ _,HO.out⟩⟩
 case round =>
  obtain⟨r,b,hr,rfl,HI⟩:=hrel;by_cases hrl:r<P0.length
  ·have HRL:=hd_ hrl;obtain⟨g,cg,hsl,hBg,-⟩:=zj7.slice HI.out.2.2 (by rw[markL_len];omega)
   injection hsl with hAp hn1 hc1
   subst hAp;clear hn1 hc1;go_wp2_with fail;go_loopw [21] (fun s wr=>∃(i:Nat) (b:ByteArray→Bool),i≤P0.length∧s=.int .i64 i∧Hid (zqf hs P0 r i b∧Below B W wr∧zj7 wr B (.slice (some ⟨g,0,none⟩) P0.length cp) (zdz b P0))) (fun s _=>P0.length - (intOf s).toNat)
   case atStart=>exact⟨0,b,Nat.zero_le _,rfl,HI⟩
   case round =>
    obtain⟨i,b,hi,rfl,HJ⟩:=hrel;by_cases hlt:i<P0.length
    ·have hml:i<(zdz b P0).length:=by rw[markL_len];exact hlt
     obtain⟨⟨y0,y1,y2,y3,y4⟩,fz⟩:=zj7.cell HJ.out.2.2 hml;have HYES:=hd_ (rd_yes HOK.out HSRT.out HJ.out.1 hlt hml);have HNOT:=hd_ (rd_not HOK.out HJ.out.1 hlt hml);have HPT:Hid (∀ X,zB wr X→(X.cell? ⟨g,i * 5,none⟩=some (.int .i64 (zdz b P0)[i].kind)∧X.frozen? ⟨g,i * 5,none⟩=false)∧zj7 (X.setCell ⟨g,i * 5,none⟩ (.int .i64 5)) B (.slice (some ⟨g,0,none⟩) P0.length cp) ((zdz b P0).set i (zj8 5 (zdz b P0)[i]))):=hd_ fun X hX=>by
      have ho:=z0n HJ.out.2.2 hX;obtain⟨⟨a0,-⟩,af⟩:=zj7.cell (show zj7 X B _ _ from ho) hml;exact⟨⟨a0,af⟩,zj7.put (show zj7 X B _ _ from ho) hml 5⟩
     have HOC:=hd_ (zqx hs (zdz b P0) (zdz b P0)[i] (.slice Ah hs.length ch) (.slice (some ⟨g,0,none⟩) P0.length cp) wr (HH.out wr HJ.out.2.1) (by have:=Row.of_own HJ.out.2.2;exact this) hl (by rw[markL_len];exact hl2))
     have HLT:=hd_ hlt;generalize (zdz b P0)[i]=x at y0 y1 y2 y3 y4 HYES HNOT HPT HOC;have HBD:=hd_ HJ.out.2;clear HJ hml;by_cases h6:x.kind=6
     ·have n6:(x.kind != 6)=false:=by rw[h6];rfl
      have HN:=hd_ (HNOT.out (fun h=>h.1 h6));clear h6 fz;go_wp2_with fail;go_roundw
      case rel=>exact⟨i+1,b,HLT.out,by go_num,hd_ ⟨HN.out,HBD.out.1,HBD.out.2⟩⟩
      case measure=>have:=HLT.out;simp [intOf];omega
     ·have n6:(x.kind != 6)=true:=bne_iff_ne.2 h6;have H6:=hd_ h6;generalize ho:zqj hs (zdz b P0) x=o at HYES HNOT HOC;clear h6 fz ho;go_wp2_with fail;refine HOC.out.mono ?_;rintro e w2 ⟨rfl,hb⟩;have HB2:=hd_ hb;have HB3:=hd_ (HBD.out.1.trans (hb.mono (Nat.le_trans HBW.out HBD.out.1.size)));clear hb y0 y1 y2 y3 y4 HOC;cases o with
      | false =>
       have HN:=hd_ (HNOT.out (fun h=>by cases h.2))
       have HO2:=hd_ (z0n HBD.out.2 HB2.out);go_wp2_with fail;go_roundw
       case rel=>exact⟨i+1,b,HLT.out,by go_num,hd_ ⟨HN.out,HB3.out,HO2.out⟩⟩
       case measure=>have:=HLT.out;simp [intOf];omega
      | true =>
       obtain⟨b',hb1,hb2⟩:=HYES.out H6.out rfl;obtain⟨⟨v0,vf⟩,hput⟩:=HPT.out w2 HB2.out;rw[hb2] at hput;have HN:=hd_ hb1;have HP:=hd_ hput;clear hb1 hb2 hput;go_wp2_with fail;go_roundw
       case rel=>exact⟨i+1,b',HLT.out,by go_num,hd_ ⟨HN.out,HB3.out.setCell hBg _,HP.out⟩⟩
       case measure=>have:=HLT.out;simp [intOf];omega
    ·obtain rfl:i=P0.length:=by omega
     have HN:=hd_ (zqh HJ.out.1);have HBD:=hd_ HJ.out.2;clear HJ;go_wp2_with fail;go_roundw
     case rel=>exact⟨r+1,b,HRL.out,by go_num,hd_ ⟨HN.out,HBD.out.1,HBD.out.2⟩⟩
     case measure=>have:=HRL.out;simp [intOf];omega
  ·obtain rfl:r=P0.length:=by omega
   have he:=rd_end HI.out.1;subst he;have HF:=hd_ (HR.out wr HI.out.2.1 HI.out.2.2);clear HI;go_wp2_with fail;exact HF.out
section
variable {hs ws : List Hav} {op dt : List ByteArray} {a : Hav}
theorem zqz (h:((z6k ws a.path).isSome && (z6k hs a.path).isSome && decide ((z6k ws a.path).getD zo2=(z6k hs a.path).getD zo2))=true):zqr hs ws op dt a=none:=by
 unfold zqr;cases e1:z6k ws a.path with
 | none=>rw[e1] at h;cases h
 | some b =>
  cases e2:z6k hs a.path with
  | none=>rw[e1,e2] at h;cases h
  | some c =>
   rw[e1,e2] at h;have h:decide (b=c)=true:=h;have e:b=c:=of_decide_eq_true h;rw[zev,if_pos e.symm];rfl
theorem zr0 (hm:a∈hs∨a∈ws)(h:((z6k ws a.path).isSome && (z6k hs a.path).isSome && decide ((z6k ws a.path).getD zo2=(z6k hs a.path).getD zo2))=false):
  zqr hs ws op dt a=some (zer op dt ⟨0,a.path,((z6k ws a.path).getD zo2).num,((z6k hs a.path).getD zo2).loc,((z6k ws a.path).getD zo2).loc⟩):=by
 unfold zqr;cases e1:z6k ws a.path with
 | none =>
  cases e2:z6k hs a.path with
  | none=>exact hm.elim (fun h=>absurd rfl (z68.1 e2 a h)) (fun h=>absurd rfl (z68.1 e1 a h))
  | some c =>
   have e3:=(z67 e2).2;show some (zer op dt ⟨0,c.path,0,c.loc,z2q⟩)=_
   rw[e3];rfl
 | some b =>
  have e4:=(z67 e1).2;cases e2:z6k hs a.path with
  | none =>
   show some (zer op dt ⟨0,b.path,b.num,z2q,b.loc⟩)=_
   rw[e4];rfl
  | some c =>
   rw[e1,e2] at h;have h:decide (b=c)=false:=h;have e:¬ b=c:=of_decide_eq_false h;rw[zev,if_neg (fun e'=>e e'.symm)];show some (zer op dt ⟨0,b.path,b.num,c.loc,b.loc⟩)=_
   rw[e4];rfl
theorem zr1 {p f d:ByteArray}{n:Int}:(p∈op→zer op dt ⟨0,p,n,f,d⟩=⟨6,p,n,f,d⟩)∧(p∉op→(zqy dt f d=true→zer op dt ⟨0,p,n,f,d⟩=⟨5,p,n,f,d⟩)∧(zqy dt f d=false→zer op dt ⟨0,p,n,f,d⟩=⟨z3u f d,p,n,f,d⟩)):=by
 have hk:zer op dt ⟨0,p,n,f,d⟩=⟨zeq op dt ⟨0,p,n,f,d⟩,p,n,f,d⟩:=rfl;have hb:zqy dt f d=true↔(f≠z2q∧f∈dt)∨(d≠z2q∧d∈dt):=by
  unfold zqy;simp only[Bool.or_eq_true,Bool.and_eq_true,decide_eq_true_eq]
 rw[hk];refine⟨fun h=>?_,fun h=>⟨fun h2=>?_,fun h2=>?_⟩⟩
 ·rw[show zeq op dt ⟨0,p,n,f,d⟩=6 from if_pos h]
 ·rw[show zeq op dt ⟨0,p,n,f,d⟩=5 from by unfold zeq;rw[if_neg h,if_pos (hb.1 h2)]]
 ·rw[show zeq op dt ⟨0,p,n,f,d⟩=z3u f d from by unfold zeq;rw[if_neg h,if_neg (fun h3=>by rw[hb.2 h3] at h2;cases h2)]]
end
theorem take_fm {α β:Type}(f:α→Option β){l:List α}{k:Nat}(hk:k<l.length):(l.take (k+1)).filterMap f=(l.take k).filterMap f++(f l[k]).toList:=by
 rw[List.take_succ_eq_append_getElem hk,List.filterMap_append];congr 1
theorem stT9 (T:Code)(hT:Tryz.f50.body.bind (zhg 9)=some T)(R:Ending→World→Prop)(W:World)(hs ws al:List Hav)(op dt:List ByteArray)(Ah Aw Ao At Aa:Option Addr)(ch cw co ct ca:Nat)
  (hW:z4h W (.slice Aw ws.length cw) ws) (hH:z4h W (.slice Ah hs.length ch) hs) (hop:Strs W (.slice Ao op.length co) op) (hdt:Strs W (.slice At dt.length ct) dt) (hA:z4h W (.slice Aa al.length ca) al)
  (h1:zek hs) (h2:zek ws) (hAl:zqp hs ws ws.length al) (hl:hs.length≤1024) (wl:ws.length≤1024) (opl:op.length≤1000000) (dtl:dt.length≤1000000)
  (hR:∀ X v,zB W X→zj7 X W.heap.size v (zet hs ws op dt)→R (.returned v) X)
  (u4 u5 u6 u7 u8 gC gD gE gF gG gH gI gJ gK gL gM gN gO gP gQ gR gT gV gW gX gY gZ i6 i7 i8 ia ib ic ie ig ii ij ik il im io ip iq ir iu iv iw ix iy iz iA iB iC iD iE iF iG iH iI iJ iK iL iM iN iO iP iQ iR iS iT iU iV iW iX iY iZ j0 j1 j2 j5 j6 j7 j8 j9 jb jd jf jg jh ji jj jk jl jm bE bF bG bH bI bJ bK bL bM bN bO bP bQ bT bU bV bW bX bY bZ cj ck cn cx cy cz cA cB cD cG cH cI cJ cM cN cO cP cQ cR cT cU cW cX cY cZ da dc dd de df dg dh di dj dm du dw dx dy dz dA:Value):
  T.wp prog (bodyPost prog Tryz.f50 R) ⟨#[.slice Aw ws.length cw,.slice Ah hs.length ch,.slice Ao op.length co,.slice At dt.length ct,u4,u5,u6,u7,u8,.slice none 0 0,.slice Aa al.length ca,gC,gD,gE,gF,gG,gH,gI,gJ,gK,gL,gM,gN,gO,gP,gQ,gR,gT,gV,gW,gX,gY,gZ,i6,i7,i8,ia,ib,ic,ie,ig,ii,ij,ik,il,im,io,ip,iq,ir,iu,iv,iw,ix,iy,iz,iA,iB,iC,iD,iE,iF,iG,iH,iI,iJ,iK,iL,iM,iN,iO,iP,iQ,iR,iS,iT,iU,iV,iW,iX,iY,iZ,j0,j1,j2,j5,j6,j7,j8,j9,jb,jd,jf,jg,jh,ji,jj,jk,jl,jm,bE,bF,bG,bH,bI,bJ,bK,bL,bM,bN,bO,bP,bQ,bT,bU,bV,bW,bX,bY,bZ,cj,ck,cn,cx,cy,cz,cA,cB,cD,cG,cH,cI,cJ,cM,cN,cO,cP,cQ,cR,cT,cU,cW,cX,cY,cZ,da,dc,dd,de,df,dg,dh,di,dj,dm,du,dw,dx,dy,dz,dA],[]⟩ W:=by
 simp only[Tryz.f50,Option.bind_some,zhg,zhf] at hT
 simp at hT
 subst hT;have HW:=hd_ (fun X (hX:zB W X)=>Row.below hW hX);have HH:=hd_ (fun X (hX:zB W X)=>Row.below hH hX);have HAL:=hd_ (fun X (hX:zB W X)=>Row.below hA hX);have HOP:=hd_ (fun X (hX:zB W X) s=>zpn op (.slice Ao op.length co) s X (hop.below hX) opl);have HDT:=hd_ (fun X (hX:zB W X) s=>zpn dt (.slice At dt.length ct) s X (hdt.below hX) dtl);have HR:=hd_ hR;have HOK:=hd_ (And.intro h1 h2);have HALS:=hd_ hAl;have hall:al.length≤2048:=by have:=hAl.len;omega
 have HLN:=hd_ hall;clear hW hH hop hdt hA h1 h2 hAl hR;go_wp2_with fail;go_loopw [9,14] (fun p i wr=>∃(k:Nat) (A:Option Addr) (c:Nat),k≤al.length∧p=.slice A ((al.take k).filterMap (zqr hs ws op dt)).length c∧i=.int .i64 k∧Hid (zB W wr∧zj7 wr W.heap.size (.slice A ((al.take k).filterMap (zqr hs ws op dt)).length c) ((al.take k).filterMap (zqr hs ws op dt)))) (fun _ i _=>al.length - (intOf i).toNat)
 case atStart=>exact⟨0,none,0,Nat.zero_le _,rfl,rfl,hd_ ⟨Below.refl _ _,World.ownsRow_nil _ _ _ _⟩⟩
 case round =>
  obtain⟨k,A,c,hk,rfl,rfl,HI⟩:=hrel;have hpk:((al.take k).filterMap (zqr hs ws op dt)).length≤2048:=Nat.le_trans (List.length_filterMap_le ..) (by rw[List.length_take];omega)
  by_cases hlt:k<al.length
  ·obtain⟨ad,rfl,hab,hld⟩:=z4h.at_ (HAL.out wr HI.out.1) hlt;have HT:=hd_ (take_fm (zqr hs ws op dt) hlt);have HYES:=hd_ (fun h=>zqz (hs:=hs) (ws:=ws) (op:=op) (dt:=dt) (a:=al[k]'hlt) h);have HNO:=hd_ (fun h=>zr0 (hs:=hs) (ws:=ws) (op:=op) (dt:=dt) (HALS.out.mem (al[k]'hlt) (List.getElem_mem hlt)) h);have HLT:=hd_ hlt;generalize al[k]=a at hld HT HYES HNO;have HKW:=hd_ (fun n f d=>zr1 (op:=op) (dt:=dt) (p:=a.path) (f:=f) (d:=d) (n:=n));have HAT:=hd_ (fun X (hX:zB wr X)=>z4i.below hld (z03 hld.1) hX);have HGW:Hid (Calls prog 94 #[.slice Aw ws.length cw,.string a.path] wr fun e w'=>e=.returned (.tuple #[.agg #[.string (((z6k ws a.path).getD zo2)).path,.int .i64 (((z6k ws a.path).getD zo2)).num,.string (((z6k ws a.path).getD zo2)).loc],.bool (z6k ws a.path).isSome])∧zB wr w'):=hd_ (zo5 ws _ a.path wr (HW.out wr HI.out.1) (by omega))
   have HGH:Hid (∀ X,zB W X→Calls prog 94 #[.slice Ah hs.length ch,.string a.path] X fun e w'=>e=.returned (.tuple #[.agg #[.string (((z6k hs a.path).getD zo2)).path,.int .i64 (((z6k hs a.path).getD zo2)).num,.string (((z6k hs a.path).getD zo2)).loc],.bool (z6k hs a.path).isSome])∧zB X w'):=hd_ fun X hX=>zo5 hs _ a.path X (HH.out X hX) (by omega)
   generalize (z6k ws a.path).getD zo2=wz at HGW HYES HNO;generalize (z6k ws a.path).isSome=b1 at HGW HYES HNO;generalize (z6k hs a.path).getD zo2=hz at HGH HYES HNO;generalize (z6k hs a.path).isSome=b2 at HGH HYES HNO;obtain⟨s0,-,-⟩:=hld;clear hlt hab;go_wp2_with fail;refine HGW.out.mono ?_;rintro e w2 ⟨rfl,hb⟩;dsimp only;have hA3:zB w2 (w2.alloc (.cells #[.string wz.path,.int .i64 wz.num,.string wz.loc] 96)):=(Below.refl _ _).alloc (Nat.le_refl _) _;have H15:=hd_ (z0l w2 [.string wz.path,.int .i64 wz.num,.string wz.loc] 96);have HX3:=hd_ (z0r hb hA3);clear hb hA3 s0 HGW;go_upto_region 13 with fail;generalize w2.alloc (.cells #[.string wz.path,.int .i64 wz.num,.string wz.loc] 96)=W3 at H15 HX3 ⊢;generalize w2.heap.size=g15 at H15 ⊢;obtain⟨s0,-,-⟩:=HAT.out W3 HX3.out;have HC:=hd_ (HGH.out W3 (z0r HI.out.1 HX3.out));go_wp2_with fail;refine HC.out.mono ?_;rintro e w4 ⟨rfl,hb⟩;dsimp only;have hA5:zB w4 (w4.alloc (.cells #[.string hz.path,.int .i64 hz.num,.string hz.loc] 96)):=(Below.refl _ _).alloc (Nat.le_refl _) _;have H17:=hd_ (z0l w4 [.string hz.path,.int .i64 hz.num,.string hz.loc] 96);have H15':=hd_ ((H15.out.below hb H15.out.lt).alloc (.cells #[.string hz.path,.int .i64 hz.num,.string hz.loc] 96));have HX5:=hd_ (z0r (z0r HX3.out hb) hA5);clear hb hA5 s0 HC H15 HX3 HGH;go_upto_region 14 with fail;generalize w4.alloc (.cells #[.string hz.path,.int .i64 hz.num,.string hz.loc] 96)=W5 at H17 H15' HX5 ⊢;generalize w4.heap.size=g17 at H17 ⊢;refine stR14 _ (by kernel_rfl) _ W5 g15 g17 wz hz b1 b2 H15'.out H17.out ?_
   intro fN fO fP fQ fR fS fT fU;generalize (b1 && b2 && decide (wz=hz))=bb at HYES HNO ⊢;cases bb
   rotate_left
   ·have HST:=hd_ (HYES.out rfl);have HN:=hd_ (show zB W W5∧zj7 W5 W.heap.size (.slice A ((al.take k).filterMap (zqr hs ws op dt)).length c) ((al.take k).filterMap (zqr hs ws op dt)) from ⟨z0r HI.out.1 HX5.out,z0n HI.out.2 HX5.out⟩);clear HYES HNO HI HKW HAT HOP HDT;go_wp2_with fail;go_roundw
    case rel =>
     refine⟨k+1,A,c,HLT.out,?_,by go_num,?_⟩
     ·rw[HT.out,HST.out,Option.toList,List.append_nil]
     ·rw[HT.out,HST.out,Option.toList,List.append_nil];exact HN
    case measure=>have:=HLT.out;simp [intOf];omega
   have HST:=hd_ (HNO.out rfl);obtain⟨y,hy⟩:∃ y:Syn,y=zer op dt ⟨0,a.path,wz.num,hz.loc,wz.loc⟩:=⟨_,rfl⟩;have HKY:=hd_ (HKW.out wz.num hz.loc wz.loc);rw[← hy] at HST HKY;clear hy HYES HNO HKW;go_upto_region 15 with fail;refine stR15 _ (by kernel_rfl) _ W5 ad al.length ca k g15 g17 a wz hz (HAT.out W5 HX5.out) (by have:=HLT.out;omega) H15'.out H17.out ?_
   intro r82 r83 r84 r85 r86 r87 r88 r89 r90 r91 r92 r93 r94 r95 r96 r97 r98 g19 W6 hB6 hg6 hb6;have HB6:Hid (Blk W6 g19 50 [.int .i64 ((⟨z3u hz.loc wz.loc,a.path,wz.num,hz.loc,wz.loc⟩:Syn)).kind,.string ((⟨z3u hz.loc wz.loc,a.path,wz.num,hz.loc,wz.loc⟩:Syn)).path,.int .i64 ((⟨z3u hz.loc wz.loc,a.path,wz.num,hz.loc,wz.loc⟩:Syn)).num,.string ((⟨z3u hz.loc wz.loc,a.path,wz.num,hz.loc,wz.loc⟩:Syn)).frm,.string ((⟨z3u hz.loc wz.loc,a.path,wz.num,hz.loc,wz.loc⟩:Syn)).dst]):=hd_ hB6;have HG6:=hd_ (Nat.le_trans HX5.out.size hg6);have HX6:=hd_ (z0r HX5.out hb6);clear hB6 hg6 hb6 H15' H17 HX5 HAT;have HC:=hd_ (HOP.out W6 (z0r HI.out.1 HX6.out) a.path);have z1:W6.cell? ⟨g19,1,none⟩=some (.string a.path):=HB6.out.cell 1;by_cases hin:a.path∈op
   focus
    have HE:=hd_ (HKY.out.1 hin);rw[decide_eq_true hin] at HC;clear hin HKY HOP HDT;go_wp2_with fail;refine HC.out.mono ?_;rintro e w7 ⟨rfl,hb⟩;have HB7:=hd_ (HB6.out.below hb HB6.out.lt);have HX7:=hd_ (z0r HX6.out hb);clear hb z1 HC HB6 HX6;have z0:w7.cell? ⟨g19,0,none⟩=some (.int .i64 (z3u hz.loc wz.loc)):=HB7.out.cell 0;have f0:w7.frozen? ⟨g19,0,none⟩=false:=HB7.out.frozen 0;have HB9:Hid (Blk (w7.setCell ⟨g19,0,none⟩ (.int .i64 6)) g19 50 [.int .i64 y.kind,.string y.path,.int .i64 y.num,.string y.frm,.string y.dst]):=hd_ (by rw[HE.out];exact HB7.out.set_ 0 (.int .i64 6))
    have HX9:Hid (zB wr (w7.setCell ⟨g19,0,none⟩ (.int .i64 6))):=hd_ (HX7.out.setCell HG6.out _);go_upto_region 20 with fail;generalize w7.setCell ⟨g19,0,none⟩ (.int .i64 6)=W9 at HB9 HX9 ⊢
   rotate_left
   focus
    rw[decide_eq_false hin] at HC;have HKN:=hd_ (HKY.out.2 hin);clear hin HKY HOP;go_wp2_with fail;refine HC.out.mono ?_;rintro e w7 ⟨rfl,hb⟩;have HB7:=hd_ (HB6.out.below hb HB6.out.lt);have HX7:=hd_ (z0r HX6.out hb);clear hb z1 HC HB6 HX6;go_upto_region 18 with fail;refine stR18 _ (by kernel_rfl) _ w7 g19 ⟨z3u hz.loc wz.loc,a.path,wz.num,hz.loc,wz.loc⟩ dt (.slice At dt.length ct) HB7.out (fun X s hX=>HDT.out X (z0r HI.out.1 (z0r HX7.out hX)) s) ?_
    intro q104 q105 q106 q107 q108 q109 q110 q111 q112 q113 q114 q115 q116 q117 q118 q119 q120 q121 q122 w8 hb8;dsimp only;have HB8:=hd_ (HB7.out.below hb8 HB7.out.lt);have HX8:=hd_ (z0r HX7.out hb8);clear hb8 HB7 HX7 HDT;generalize zqy dt hz.loc wz.loc=db at HKN ⊢;cases db
    focus
     have HE:=hd_ (HKN.out.2 rfl);have HB9:Hid (Blk w8 g19 50 [.int .i64 y.kind,.string y.path,.int .i64 y.num,.string y.frm,.string y.dst]):=hd_ (by rw[HE.out];exact HB8.out)
     have HX9:=HX8;clear HKN HB8 HX8;go_upto_region 20 with fail;generalize w8=W9 at HB9 HX9 ⊢
    rotate_left
    focus
     have HE:=hd_ (HKN.out.1 rfl);have z0:w8.cell? ⟨g19,0,none⟩=some (.int .i64 (z3u hz.loc wz.loc)):=HB8.out.cell 0;have f0:w8.frozen? ⟨g19,0,none⟩=false:=HB8.out.frozen 0;have HB9:Hid (Blk (w8.setCell ⟨g19,0,none⟩ (.int .i64 5)) g19 50 [.int .i64 y.kind,.string y.path,.int .i64 y.num,.string y.frm,.string y.dst]):=hd_ (by rw[HE.out];exact HB8.out.set_ 0 (.int .i64 5))
     have HX9:Hid (zB wr (w8.setCell ⟨g19,0,none⟩ (.int .i64 5))):=hd_ (HX8.out.setCell HG6.out _);clear HKN;go_upto_region 20 with fail;generalize w8.setCell ⟨g19,0,none⟩ (.int .i64 5)=W9 at HB9 HX9 ⊢
   all_goals
    have HO9:=hd_ (z0n HI.out.2 HX9.out);have HL9:=hd_ (z0r HI.out.1 HX9.out);obtain⟨z0,z1,z2,z3,z4⟩:=z3w (x:=y) HB9.out;have HOX:=hd_ (z0n HO9.out ((Below.refl W9.heap.size W9).alloc (Nat.le_refl _) (.cells #[.int .i64 y.kind,.string y.path,.int .i64 y.num,.string y.frm,.string y.dst] 50)));have HLX:=hd_ (HL9.out.alloc HL9.out.size (.cells #[.int .i64 y.kind,.string y.path,.int .i64 y.num,.string y.frm,.string y.dst] 50));have hrow:=z0i W9 [.int .i64 y.kind,.string y.path,.int .i64 y.num,.string y.frm,.string y.dst] 50 5 1 rfl (by decide) _ rfl
    go_wp2_with (at_builtin;refine z0k rfl rfl zic HOX.out rfl hrow rfl HLX.out HLX.out.size (zid y) (by omega) (by unfold maxLen;omega) ?_;intro A9 c9 w9 hown9 hbl9)
    have HN:=hd_ (And.intro hbl9 hown9);clear hown9 hbl9 hrow;go_wp2_with fail;go_roundw
    case rel =>
     refine⟨k+1,A9,c9,HLT.out,?_,by go_num,?_⟩
     ·rw[HT.out,HST.out,Option.toList,List.length_append];rfl
     ·rw[HT.out,HST.out,Option.toList,List.length_append,List.length_singleton];refine hd_ ⟨HN.out.1,?_⟩;unfold zj7;rw[List.length_append,List.length_singleton,z5c];exact HN.out.2
    case measure=>have:=HLT.out;simp [intOf];omega
  ·obtain rfl:k=al.length:=by omega
   have HP:Hid ((al.take al.length).filterMap (zqr hs ws op dt)=zes hs ws op dt):=hd_ (by rw[List.take_length];exact zqt HOK.out.1 HOK.out.2 HALS.out)
   rw[HP.out] at HI hpk ⊢;have HT:=hd_ (fun(T:Code) hT=>stT21 T hT R wr W.heap.size hs (zes hs ws op dt) Ah A ch c (fun X hX=>HH.out X (HI.out.1.trans hX)) HI.out.2 HI.out.1.size HOK.out.1 (zex (op:=op) (dt:=dt) HOK.out.1 HOK.out.2).1 (by omega) (by omega) (fun X hX hO=>HR.out X _ (HI.out.1.trans hX) (by have e:(zdz (blB hs (zes hs ws op dt)) (zes hs ws op dt))=zet hs ws op dt:=rfl;rw[← e];exact hO)))
   generalize zes hs ws op dt=P0 at HT ⊢;rename ∀ a w,Code.wp _ (Code.seq (Code.seq (Code.region 21 _ _) _) _) _ a w→_=>hk7
   have HK7:=hd_ hk7;clear hk7 HI HP hpk;go_wp2_with fail;exact HK7.out _ _ (HT.out _ (by kernel_rfl) _ _ _ _ _ _ _ _ _ _ _ _ _ _ _ _ _ _ _ _ _ _ _ _ _ _ _ _ _ _ _ _ _ _ _ _ _ _ _ _ _ _ _ _ _ _ _ _ _ _ _ _ _ _ _ _ _ _ _ _ _ _ _ _ _ _ _ _ _ _ _ _ _ _ _ _ _ _ _ _ _ _ _ _ _ _ _ _ _ _ _ _ _ _ _ _ _ _ _ _ _ _ _ _ _ _ _ _ _ _ _ _ _ _ _ _ _ _ _ _ _ _ _ _ _ _ _ _ _ _ _ _ _ _ _ _ _ _ _ _ _ _ _ _ _ _ _ _ _ _ _ _ _ _ _ _ _ _ _)
