/- The reference's Append of a change without records: an error, or what was and what the edits make. -/
import Derived.Test.YtegeboijhifmcaaGreatDoorMgw3
import Derived.Test.YtegeboijhifmcaaGreatDoorMgw7
import Derived.Test.YtegeboijhifmcaaGreatDoorMgw22
import Derived.Test.YtegeboijhifmcaaGreatDoorMgw27
import Derived.Test.YtegeboijhifmcaaGreatDoorMgw8
import Derived.Test.YtegeboijhifmcaaGreatDoorMgw13
import Derived.Test.YtegeboijhifmcaaGreatDoorMgw15
import Derived.Deep.CutBlock
import Derived.Deep.LoopGhost
namespace Go.Proofs.YtegeboijhifmcaaGreatDoor
set_option linter.unusedVariables false
set_option linter.unusedSimpArgs false
set_option maxHeartbeats 16000000
set_option maxRecDepth 100000
open Go.RowKit
theorem zic (n:Int)(es:List Edt)(k:Nat)(h:k<es.length):((es.take (k+1)).map (zhy n)).flatMap Rev.cells=((es.take k).map (zhy n)).flatMap Rev.cells++(zhy n es[k]).cells:=by
 rw[List.take_succ_eq_append_getElem h,List.map_append,List.flatMap_append,List.map_cons,List.map_nil,List.flatMap_cons,List.flatMap_nil,List.append_nil]
theorem zid (l:List Rev):∀ u∈l.flatMap Rev.cells,u.oneCell'=true:=by
 intro u hu;obtain⟨x,-,hx⟩:=List.mem_flatMap.1 hu;simp only[Rev.cells,List.mem_cons,List.not_mem_nil,or_false] at hx
 rcases hx with rfl | rfl | rfl | rfl | rfl | rfl | rfl | rfl | rfl | rfl | rfl | rfl <;> rfl
theorem zie {w w':World}{row:Option Nat}(h:w.grownBy w' row)(hr:row=none):Below w.heap.size w w':=⟨h.os,h.tape,h.output,h.size,fun k hk=>h.block k hk (by rw[hr];exact fun e=>by cases e)⟩
theorem zif (A:Option Addr)(c:Nat)(w:World):Calls Tryz.prog 88 #[.slice A 0 c] w fun e w'=>e=.returned (.slice A 0 c)∧Below w.heap.size w w':=by
 go_enter Tryz.func88,Tryz.ntmps88;go_wp2_with fail;go_loopw [7] (fun i wr=>i=.int .i64 0∧wr=w) (fun i _=>0)
 case atStart=>exact⟨rfl,rfl⟩
 case round =>
  obtain⟨rfl,rfl⟩:=hrel;go_wp2_with fail;go_ret;exact⟨rfl,Below.refl _ _⟩
structure WaR (V wx:World)(g7:Nat)(v1 v2:Value)(n:Nat)(xs:List Value):Prop where
 bel:Below V.heap.size V wx
 le:V.heap.size≤g7
 box:Blk wx g7 26 [v1,v2]
 one:wx.ownsRow V.heap.size 66 12 v1 n xs
 ne1:v1.ownBlock≠some g7
theorem WaR.push {V wr X w5:World}{g7:Nat}{v1 v2 v3:Value}{n n':Nat}{xs xs':List Value}(h:WaR V wr g7 v1 v2 n xs)(hX:Below wr.heap.size wr X)(ho:w5.ownsRow V.heap.size 66 12 v3 n' xs')(hg:X.grownBy w5 v1.ownBlock)(hw:v3.ownBlock=v1.ownBlock∨v3.ownBlock=some X.heap.size):
  WaR V (w5.setCell ⟨g7,0,none⟩ v3) g7 v3 v2 n' xs':=by
 have l1:=h.one.lt;have lb:=h.box.lt;have hs:=hX.size;have n3:v3.ownBlock≠some g7:=fun e=>by
  rcases hw with hw | hw
  ·exact h.ne1 (hw ▸ e)
  ·rw[hw] at e;injection e with e;omega
 have b5:Below V.heap.size V w5:=(z0r h.bel hX).grown hg (by have:=h.bel.size;omega) (fun k e=>(l1 k e).1)
 exact⟨b5.setCell (p:=⟨g7,0,none⟩) h.le _,h.le,((h.box.below hX lb).grown hg (fun e=>h.ne1 e.symm)).set_ 0 v3,z4r ho (p:=⟨g7,0,none⟩) n3 _,n3⟩
theorem WaR.under {V wr X:World}{g7:Nat}{v1 v2:Value}{n:Nat}{xs:List Value}(h:WaR V wr g7 v1 v2 n xs)(hX:Below wr.heap.size wr X):WaR V X g7 v1 v2 n xs:=
 ⟨z0r h.bel hX,h.le,h.box.below hX h.box.lt,z0n h.one hX,h.ne1⟩
theorem waR9 (ops:Array Oper)(hops:Tryz.f58.body.bind (zci 9)=some ops)(Q:Exit→Act→World→Prop)(g3 g7 g9 n:Nat)(num:Int)(cl tx:ByteArray)(Ae Ac:Option Addr)(ne nc ce cc:Nat)(x:Edt)(r:Rev)(v1:Value)(xs:List Value)(V V1:World)
  (hR:WaR V V1 g7 v1 (.slice none 0 0) n xs) (hB:Blk V1 g9 90 [.string x.path,.int .i64 x.act,.int .i64 x.ty.base,.bool x.ty.k,.bool x.ty.l,.bool x.ty.x,.int .u64 x.sum,.int .i64 x.size,.int .i64 x.base,.string x.frm,.int .i64 x.fnum,.int .i64 x.fence]) (hC:Blk V1 g3 95 [.int .i64 num,.string cl,.string tx,.slice Ae ne ce,.slice Ac nc cc]) (hn:n≤100000)
  (hrev:∀ X,Below V1.heap.size V1 X→Calls Tryz.prog 87 #[.agg #[.int .i64 num,.string cl,.string tx,.slice Ae ne ce,.slice Ac nc cc],.agg #[.string x.path,.int .i64 x.act,.int .i64 x.ty.base,.bool x.ty.k,.bool x.ty.l,.bool x.ty.x,.int .u64 x.sum,.int .i64 x.size,.int .i64 x.base,.string x.frm,.int .i64 x.fnum,.int .i64 x.fence]] X fun e w'=>e=.returned (.agg #[.string r.path,.int .i64 r.num,.int .i64 r.chg,.int .i64 r.act,.int .i64 r.ty.base,.bool r.ty.k,.bool r.ty.l,.bool r.ty.x,.int .u64 r.sum,.int .i64 r.size,.string r.frm,.int .i64 r.fnum])∧Below X.heap.size X w')
  (u0 u1 u2 u4 u5 u6 u8 gn gt gu gx gy gz gA gC gD gE gF gG gH gI gJ gK gL gM gN gO gP gQ gR gT gV gW gX gY gZ i6 i7 i8 ia ib ic ie ig ii ij ik:Value)
  (hQ:∀(eH eI eJ eK eL eM eN eO:Value) (v3:Value) (w':World),Hid (WaR V w' g7 v3 (.slice none 0 0) (n+1) (xs++[.string r.path,.int .i64 r.num,.int .i64 r.chg,.int .i64 r.act,.int .i64 r.ty.base,.bool r.ty.k,.bool r.ty.l,.bool r.ty.x,.int .u64 r.sum,.int .i64 r.size,.string r.frm,.int .i64 r.fnum]))→Q .normal ⟨#[u0,u1,u2,.pointer (some ⟨g3,0,none⟩),u4,u5,u6,.pointer (some ⟨g7,0,none⟩),u8,.pointer (some ⟨g9,0,none⟩),gn,gt,gu,gx,gy,gz,gA,gC,gD,gE,gF,gG,gH,gI,gJ,gK,gL,gM,gN,gO,eH,eI,eJ,eK,eL,eM,eN,eO,gZ,i6,i7,i8,ia,ib,ic,ie,ig,ii,ij,ik],[]⟩ w'):
  (Code.region 9 ops true).wp Tryz.prog Q ⟨#[u0,u1,u2,.pointer (some ⟨g3,0,none⟩),u4,u5,u6,.pointer (some ⟨g7,0,none⟩),u8,.pointer (some ⟨g9,0,none⟩),gn,gt,gu,gx,gy,gz,gA,gC,gD,gE,gF,gG,gH,gI,gJ,gK,gL,gM,gN,gO,gP,gQ,gR,gT,gV,gW,gX,gY,gZ,i6,i7,i8,ia,ib,ic,ie,ig,ii,ij,ik],[]⟩ V1:=by
 simp only[Tryz.f58,Option.bind_some,zci] at hops
 simp at hops
 subst hops;obtain⟨A1,c1,hv1⟩:=z0o hR.one;subst hv1;have HQ:=hd_ hQ;have HR:=hd_ hR;have HB:=hd_ hB;have HC:=hd_ hC;have HRV2:=hd_ hrev;clear hQ hR hB hrev hC;have f0:V1.cell? ⟨g7,0,none⟩=some (.slice A1 n c1):=HR.out.box.cell 0;obtain⟨c0,c1',c2,c3,c4,c5,c6,c7,c8,c9,c10,c11⟩:=z7z HB.out;obtain⟨k0,k1,k2,k3,k4⟩:=zhx HC.out;refine wp_region_noPanic ?_;go_region_law (first
  | (refine zce rfl rfl zgt (z0n (z0n HR.out.one hS5) ((Below.refl _ _).alloc (Nat.le_refl _) _)) (by simp [Act.eval,Act.put]) (z0i w5 [.string r.path,.int .i64 r.num,.int .i64 r.chg,.int .i64 r.act,.int .i64 r.ty.base,.bool r.ty.k,.bool r.ty.l,.bool r.ty.x,.int .u64 r.sum,.int .i64 r.size,.string r.frm,.int .i64 r.fnum] _ 12 1 rfl (by decide) _ rfl) (by simp [Act.eval,Act.put]) (by simp [Value.oneCell']) (by omega) (by unfold maxLen;omega) (by have:=hS5.size;have:=HR.out.bel.size;simp;omega) ?_;intro A6 c6' w6 hO6 hG6 hw6;have hbx:=(HR.out.box.below (z0r hS5 ((Below.refl _ _).alloc (Nat.le_refl _) _)) HR.out.box.lt).grown hG6 (fun e=>HR.out.ne1 e.symm);obtain⟨b0,b1,g0,g1⟩:=box2 hbx)
  | (go_simp;go_at_call 87;refine (HRV2.out _ (Below.refl _ _).drew).mono ?_;rintro e w5 ⟨rfl,hX5⟩;have hS5:Below V1.heap.size V1 w5:=(Below.refl _ _).drew.trans hX5;have f5:w5.cell? ⟨g7,0,none⟩=some (.slice A1 n c1):=(HR.out.box.below hS5 HR.out.box.lt).cell 0;have f6:(w5.alloc (.cells #[.string r.path,.int .i64 r.num,.int .i64 r.chg,.int .i64 r.act,.int .i64 r.ty.base,.bool r.ty.k,.bool r.ty.l,.bool r.ty.x,.int .u64 r.sum,.int .i64 r.size,.string r.frm,.int .i64 r.fnum] 66)).cell? ⟨g7,0,none⟩=some (.slice A1 n c1):=(HR.out.box.below (hS5.alloc hS5.size _) HR.out.box.lt).cell 0))
 all_goals exact NoPanic.normal (HQ.out _ _ _ _ _ _ _ _ _ _ (HR.out.push (z0r hS5 ((Below.refl _ _).alloc (Nat.le_refl _) _)) hO6 hG6 hw6))
theorem waR11 (ops:Array Oper)(hops:Tryz.f58.body.bind (zci 11)=some ops)(Q:Exit→Act→World→Prop)(g2 g3 g7 n:Nat)(num:Int)(cl tx:ByteArray)(Aq Ae:Option Addr)(ne cq ce:Nat)(v0 v1:Value)(xs:List Value)(V V1:World)
  (hR:WaR V V1 g7 v1 (.slice none 0 0) n xs) (hD:Blk V1 g2 26 [v0,.slice Aq 0 cq]) (hC:Blk V1 g3 95 [.int .i64 num,.string cl,.string tx,.slice Ae ne ce,.slice none 0 0]) (hQd:z48 V1 (.slice Aq 0 cq) [])
  (u0 u1 u4 u5 u6 u8 u9 gn gt gu gx gy gz gA gC gD gE gF gG gH gI gJ gK gL gM gN gO gP gQ gR gT gV gW gX gY gZ i6 i7 i8 ia ib ic ie ig ii ij ik:Value)
  (hQ:∀(eQ eR eS eT eU eV eW eX eY eZ:Value) (A2:Option Addr) (c2:Nat) (w':World),Hid (Below V.heap.size V w'∧Blk w' g7 26 [v1,.slice A2 0 c2]∧w'.ownsRow V.heap.size 66 12 v1 n xs∧z48 w' (.slice A2 0 c2) [])→Q .normal ⟨#[u0,u1,.pointer (some ⟨g2,0,none⟩),.pointer (some ⟨g3,0,none⟩),u4,u5,u6,.pointer (some ⟨g7,0,none⟩),u8,u9,gn,gt,gu,gx,gy,gz,gA,gC,gD,gE,gF,gG,gH,gI,gJ,gK,gL,gM,gN,gO,gP,gQ,gR,gT,gV,gW,gX,gY,gZ,eQ,eR,eS,eT,eU,eV,eW,eX,eY,eZ,ik],[]⟩ w'):
  (Code.region 11 ops true).wp Tryz.prog Q ⟨#[u0,u1,.pointer (some ⟨g2,0,none⟩),.pointer (some ⟨g3,0,none⟩),u4,u5,u6,.pointer (some ⟨g7,0,none⟩),u8,u9,gn,gt,gu,gx,gy,gz,gA,gC,gD,gE,gF,gG,gH,gI,gJ,gK,gL,gM,gN,gO,gP,gQ,gR,gT,gV,gW,gX,gY,gZ,i6,i7,i8,ia,ib,ic,ie,ig,ii,ij,ik],[]⟩ V1:=by
 simp only[Tryz.f58,Option.bind_some,zci] at hops
 simp at hops
 subst hops;have HQ:=hd_ hQ;have HR:=hd_ hR;have HQD:=hd_ hQd;have HFF:Hid (∀ w',Below V1.heap.size V1 w'→w'.cell? ⟨g2,1,none⟩=some (.slice Aq 0 cq)∧w'.cell? ⟨g3,4,none⟩=some (.slice none 0 0)∧w'.cell? ⟨g7,1,none⟩=some (.slice none 0 0)∧w'.frozen? ⟨g7,1,none⟩=false):=hd_ fun w' hb=>by
  obtain⟨-,a,-,-⟩:=box2 (hD.below hb hD.lt);obtain⟨-,-,-,-,b⟩:=zhx (hC.below hb hC.lt);obtain⟨-,c,-,d⟩:=box2 (hR.box.below hb hR.box.lt);exact⟨a,b,c,d⟩
 have HEND:Hid (∀(A6:Option Addr) (c6:Nat) (w6 w7:World),Below V1.heap.size V1 w7→w6.ownsRow V1.heap.size 145 6 (.slice A6 0 c6) 0 []→Below w6.heap.size w6 w7→Below V.heap.size V (w7.setCell ⟨g7,1,none⟩ (.slice A6 0 c6))∧Blk (w7.setCell ⟨g7,1,none⟩ (.slice A6 0 c6)) g7 26 [v1,.slice A6 0 c6]∧(w7.setCell ⟨g7,1,none⟩ (.slice A6 0 c6)).ownsRow V.heap.size 66 12 v1 n xs∧z48 (w7.setCell ⟨g7,1,none⟩ (.slice A6 0 c6)) (.slice A6 0 c6) []):=hd_ fun A6 c6 w6 w7 h7 ho h67=>by
  refine⟨(z0r HR.out.bel h7).setCell (p:=⟨g7,1,none⟩) HR.out.le _,(HR.out.box.below h7 HR.out.box.lt).set_ 1 _,z4r (z0n HR.out.one h7) (p:=⟨g7,1,none⟩) HR.out.ne1 _,?_⟩;obtain⟨A,c,e,hc,hm,hl,h0,-⟩:=Row.of_own ho;exact⟨A,c,e,hc,hm,hl,h0,fun h=>absurd h (by decide)⟩
 clear hQ hR hD hC hQd;obtain⟨f0,f1,f2,f3⟩:=HFF.out V1 (Below.refl _ _);refine wp_region_noPanic ?_;go_region_law (first
  | (refine zce (base:=V1.heap.size) (n:=0) (m:=0) (xs:=[]) (news:=[]) rfl rfl zgu (World.ownsRow_nil _ _ _ _) (by simp [Act.eval,Act.put];done) (HQD.out.below (Below.refl _ _).drew) (by simp [Act.eval,Act.put];done) (fun u h=>by cases h) (by omega) (by unfold maxLen;omega) (Below.size (B:=V1.heap.size) (w:=V1) (Below.refl _ _).drew) ?_;intro A5 c5 w5 hO5 hG5 hw5;have hX5:=zie hG5 rfl;have hS5:Below V1.heap.size V1 w5:=z0r (Below.refl _ _).drew hX5;obtain⟨f4,f5,f6,f7⟩:=HFF.out w5 hS5)
  | (refine zce (m:=0) (news:=[]) rfl rfl zgu hO5 (by simp [Act.eval,Act.put];done) (z48.nil_ w5) (by simp [Act.eval,Act.put];done) (fun u h=>by cases h) (by omega) (by unfold maxLen;omega) hS5.size ?_;intro A6 c6 w6 hO6 hG6 hw6;have hS6:Below V1.heap.size V1 w6:=hS5.grown hG6 hS5.size (fun k e=>(hO5.lt k e).1);obtain⟨f8,f9,f10,f11⟩:=HFF.out w6 hS6)
  | (go_simp;go_at_call 88;refine (zif A6 c6 w6).mono ?_;rintro e w7 ⟨rfl,hG7⟩;have hS7:Below V1.heap.size V1 w7:=z0r hS6 hG7;obtain⟨f12,f13,f14,f15⟩:=HFF.out w7 hS7))
 all_goals exact NoPanic.normal (HQ.out _ _ _ _ _ _ _ _ _ _ _ _ _ (HEND.out A6 c6 w6 w7 hS7 hO6 hG7))
def zig (w:World)(D:List Rev)(es:List Edt)(num:Int)(e:Ending)(w':World):Prop:=
 Below w.heap.size w w'∧((∃ n:Int,n≠0∧e=.returned (.tuple #[.agg #[.slice none 0 0,.slice none 0 0],.int .i64 n])) ∨
  ∃(A A2:Option Addr) (c c2:Nat),e=.returned (.tuple #[.agg #[.slice A (D.length+es.length) c,.slice A2 0 c2],.int .i64 0])∧z45 w' (.slice A (D.length+es.length) c) (D++es.map (zhy num))∧(∀ x,(Value.slice A (D.length+es.length) c).ownBlock=some x→w.heap.size≤x∧x<w'.heap.size)∧z48 w' (.slice A2 0 c2) [])
def WaI (V wr:World)(g7:Nat)(D:List Rev)(es:List Edt)(num:Int)(k:Nat):Prop:=∃ v1,WaR V wr g7 v1 (.slice none 0 0) (D.length+k) (D.flatMap Rev.cells++((es.take k).map (zhy num)).flatMap Rev.cells)
theorem zih (D:List Rev)(es:List Edt)(num:Int)(Ar Aq Ae:Option Addr)(cr cq ce:Nat)(w:World)(he:Env w)(hR:z45 w (.slice Ar D.length cr) D)(hl:D.length≤1000)(hE:z47 w (.slice Ae es.length ce) es)(hel:es.length≤6)
  (hsz:∀ e∈es,e.path.size≤2000000∧0≤e.base∧e.base≤1000000) (hQ:z48 w (.slice Aq 0 cq) []):
  Calls Tryz.prog 58 #[.agg #[.slice Ar D.length cr,.slice Aq 0 cq],.agg #[.int .i64 num,.string ⟨#[]⟩,.string ⟨#[]⟩,.slice Ae es.length ce,.slice none 0 0]] w (zig w D es num):=by
 have HEN:=hd_ he;have HR:=hd_ hR;have HQ:=hd_ hQ;have HE:=hd_ hE;have HSZ:=hd_ hsz;obtain⟨W1,hW1⟩:∃ W,W=((w.alloc (.cells #[.slice Ar D.length cr,.slice Aq 0 cq] 26)).alloc (.cells #[.int .i64 num,.string ⟨#[]⟩,.string ⟨#[]⟩,.slice Ae es.length ce,.slice none 0 0] 95)).alloc (.cells #[.slice none 0 0,.slice none 0 0] 26):=⟨_,rfl⟩;have hb1:Below w.heap.size w W1:=by rw[hW1];exact (((Below.refl _ _).alloc (Nat.le_refl _) _).alloc (by simp) _).alloc (by simp;omega) _
 have hD1:Blk W1 w.heap.size 26 [.slice Ar D.length cr,.slice Aq 0 cq]:=by rw[hW1];exact ((z0l w _ _).alloc _).alloc _
 have hC1:Blk W1 (w.heap.size+1) 95 [.int .i64 num,.string ⟨#[]⟩,.string ⟨#[]⟩,.slice Ae es.length ce,.slice none 0 0]:=by
  rw[hW1];have:=z0l (w.alloc (.cells #[.slice Ar D.length cr,.slice Aq 0 cq] 26)) [.int .i64 num,.string ⟨#[]⟩,.string ⟨#[]⟩,.slice Ae es.length ce,.slice none 0 0] 95;simp only[World.size_alloc] at this
  exact this.alloc _
 have hZ1:Blk W1 (w.heap.size+1+1) 26 [.slice none 0 0,.slice none 0 0]:=by
  rw[hW1];have:=z0l ((w.alloc (.cells #[.slice Ar D.length cr,.slice Aq 0 cq] 26)).alloc (.cells #[.int .i64 num,.string ⟨#[]⟩,.string ⟨#[]⟩,.slice Ae es.length ce,.slice none 0 0] 95)) [.slice none 0 0,.slice none 0 0] 26;simp only[World.size_alloc] at this
  exact this
 have HW1:=hd_ hW1;have Hb1:=hd_ hb1;have HD1:=hd_ hD1;have HC1:=hd_ hC1;have HZ1:=hd_ hZ1;have HCK:=hd_ (zib D es num Ar Aq Ae cr cq ce W1 (he.below hb1) (z45.below hR hb1) hl (z47.below hE hb1) hel hsz);clear hW1 hb1 hD1 hC1 hZ1 he hR hE hsz hQ;go_enter Tryz.func58,Tryz.ntmps58;go_upto_region 1 with fail;rw[← HW1.out];obtain⟨d0,d1,-,-⟩:=box2 HD1.out;obtain⟨k0,k1,k2,k3,k4⟩:=zhx HC1.out;go_wp2_with fail;refine HCK.out.mono ?_;rintro e w2 ⟨⟨e0,rfl⟩,hb2⟩;dsimp only;have HB2:=hd_ hb2;clear hb2 d0 d1 k0 k1 k2 k3 k4 HCK;have HF:=hd_ (fun(W:World) (n:Int) (hb:Below w.heap.size w W) (hn:n≠0)=>(⟨hb,.inl ⟨n,hn,rfl⟩⟩:zig w D es num (.returned (.tuple #[.agg #[.slice none 0 0,.slice none 0 0],.int .i64 n])) W));by_cases h0:e0=0
 case neg =>
  have q:(e0 != 0)=true:=by simpa using h0
  have HN:=hd_ h0;clear h0;have hR4:=HZ1.out.below HB2.out HZ1.out.lt;obtain⟨r0,r1,f0,f1⟩:=box2 hR4;have HBX:=hd_ (z0r Hb1.out HB2.out);go_wp2_with fail;have hR5:=(hR4.set_ 0 (.slice none 0 0)).set_ 1 (.slice none 0 0);have hB5:=(HBX.out.setCell (p:=⟨w.heap.size+1+1,0,none⟩) (by simp;omega) (.slice none 0 0)).setCell (p:=⟨w.heap.size+1+1,1,none⟩) (by simp;omega) (.slice none 0 0)
  clear r0 r1 f0 f1 hR4;generalize (w2.setCell ⟨w.heap.size+1+1,0,none⟩ (.slice none 0 0)).setCell ⟨w.heap.size+1+1,1,none⟩ (.slice none 0 0)=W5 at hR5 hB5 ⊢;obtain⟨r0,r1,-,-⟩:=box2 hR5;refine bodyPost_ret (v:=.tuple #[.agg #[.slice none 0 0,.slice none 0 0],.int .i64 e0]) (by simp [results,Tryz.results58,go_sem,r0,r1]) rfl (HF.out W5 e0 hB5 HN.out)
 subst h0;clear HF;have hO7:=z0l w2 [.slice none 0 0,.slice none 0 0] 26;have hA3:Below w2.heap.size w2 (w2.alloc (.cells #[.slice none 0 0,.slice none 0 0] 26)):=(Below.refl _ _).alloc (Nat.le_refl _) _;go_upto_region 5 with fail;generalize w2.alloc (.cells #[.slice none 0 0,.slice none 0 0] 26)=w3 at hO7 hA3 ⊢;have hW3:=z0r HB2.out hA3;obtain⟨d0,d1,-,-⟩:=box2 (HD1.out.below hW3 HD1.out.lt);obtain⟨p0,p1,p2,p3⟩:=box2 hO7;have hRW:=z45.below HR.out (z0r Hb1.out hW3);have HO7:=hd_ hO7;have HA3:=hd_ hA3;have HRW:=hd_ hRW;clear hO7 hA3 hW3 hRW;go_upto_region 6 with (at_builtin;refine z0j (base:=w3.heap.size) (n:=0) (xs:=[]) rfl rfl zgt (World.ownsRow_nil _ _ _ _) rfl HRW.out rfl (zid _) (by omega) (by unfold maxLen;omega) (Nat.le_refl _) ?_;intro A5 c5 w5 hO5 hG5 hw5;have hX5:=zie hG5 rfl;obtain⟨t0,t1,t2,t3⟩:=box2 (HO7.out.below hX5 HO7.out.lt))
 rw[Nat.zero_add,List.nil_append] at hO5;have hAP:WaI w2 (w5.setCell ⟨w2.heap.size,0,none⟩ (.slice A5 D.length c5)) w2.heap.size D es num 0:=by
  have hlt:=HO7.out.lt;have n5:(Value.slice A5 D.length c5).ownBlock≠some w2.heap.size:=fun e=>by have:=(hO5.lt _ e).1;omega
  refine⟨.slice A5 D.length c5,(z0r HA3.out hX5).setCell (p:=⟨w2.heap.size,0,none⟩) (Nat.le_refl _) _,Nat.le_refl _,(HO7.out.below hX5 hlt).set_ 0 _,?_,n5⟩;rw[List.take_zero,List.map_nil,List.flatMap_nil,List.append_nil];exact z4p (z4r hO5 (p:=⟨w2.heap.size,0,none⟩) n5 _) (Nat.le_of_lt hlt)
 generalize w5.setCell ⟨w2.heap.size,0,none⟩ (.slice A5 D.length c5)=w6 at hAP ⊢;have HAP:=hd_ hAP;have HW6:Hid (Below W1.heap.size W1 w6):=hd_ (by obtain⟨v1,h⟩:=hAP;exact z0r HB2.out h.bel)
 clear t0 t1 t2 t3 d0 d1 p0 p1 p2 p3 hO5 hG5 hw5 hX5 hAP;obtain⟨k0,k1,k2,k3,k4⟩:=zhx (HC1.out.below HW6.out HC1.out.lt);have HMD:=hd_ (fun x (hx:x∈es) X=>zhz num ⟨#[]⟩ ⟨#[]⟩ Ae none es.length 0 ce 0 x X (HSZ.out x hx).2);go_upto_block 0 with fail
 clear k0 k1 k2 k3 k4;go_cut [] (fun wx=>Hid (WaI w2 wx w2.heap.size D es num es.length))
 case first =>
  go_wp2_with fail;go_loopw [26] (fun s wr=>∃ k:Nat,s=.int .i64 k∧k≤es.length∧Hid (WaI w2 wr w2.heap.size D es num k)) (fun s _=>es.length - (intOf s).toNat)
  case atStart=>exact⟨0,rfl,Nat.zero_le _,HAP.out⟩
  case round =>
   obtain⟨k,rfl,hk,HI⟩:=hrel;by_cases hlt:k<es.length
   ·obtain⟨v1,hAP⟩:=HI.out;obtain⟨ad,rfl,hab,hld⟩:=z47.at_ (HE.out.below (z0r (z0r Hb1.out HB2.out) hAP.bel)) hlt;have HNX:Hid (∀ v3 w',WaR w2 w' w2.heap.size v3 (.slice none 0 0) (D.length+k+1) (D.flatMap Rev.cells++((es.take k).map (zhy num)).flatMap Rev.cells++(zhy num es[k]).cells)→WaI w2 w' w2.heap.size D es num (k+1)):=hd_ (fun v3 w' h=>⟨v3,by rw[zic _ _ _ hlt,← List.append_assoc];exact h⟩)
    have HM1:=hd_ (HMD.out es[k] (List.getElem_mem hlt));have HKB:Hid (D.length+k≤100000):=hd_ (by omega)
    generalize es[k]=x at hld HNX HM1;generalize zhy num x=r at HNX HM1;generalize D.flatMap Rev.cells++((es.take k).map (zhy num)).flatMap Rev.cells=xs at hAP HNX;obtain⟨x0,x1,x2,x3,x4,x5,x6,x7,x8,x9,x10,x11⟩:=hld;have hX:=z0l wr [.string x.path,.int .i64 x.act,.int .i64 x.ty.base,.bool x.ty.k,.bool x.ty.l,.bool x.ty.x,.int .u64 x.sum,.int .i64 x.size,.int .i64 x.base,.string x.frm,.int .i64 x.fnum,.int .i64 x.fence] 90;have hA1:Below wr.heap.size wr (wr.alloc (.cells #[.string x.path,.int .i64 x.act,.int .i64 x.ty.base,.bool x.ty.k,.bool x.ty.l,.bool x.ty.x,.int .u64 x.sum,.int .i64 x.size,.int .i64 x.base,.string x.frm,.int .i64 x.fnum,.int .i64 x.fence] 90)):=(Below.refl _ _).alloc (Nat.le_refl _) _;have HAP1:=hd_ hAP;clear hAP;go_upto_region 9 with fail;clear x0 x1 x2 x3 x4 x5 x6 x7 x8 x9 x10 x11;generalize wr.alloc (.cells #[.string x.path,.int .i64 x.act,.int .i64 x.ty.base,.bool x.ty.k,.bool x.ty.l,.bool x.ty.x,.int .u64 x.sum,.int .i64 x.size,.int .i64 x.base,.string x.frm,.int .i64 x.fnum,.int .i64 x.fence] 90)=V1 at hX hA1 ⊢;generalize wr.heap.size=g9 at hX ⊢;have HX:=hd_ hX;have HA1:=hd_ (HAP1.out.under hA1);clear hX hA1;refine waR9 _ (by kernel_rfl) _ (w.heap.size+1) w2.heap.size g9 (D.length+k) num ⟨#[]⟩ ⟨#[]⟩ (some ad) none es.length 0 ce 0 x r v1 xs w2 V1 HA1.out HX.out (HC1.out.below (z0r HB2.out HA1.out.bel) HC1.out.lt) HKB.out (fun X _=>HM1.out X) _ _ _ _ _ _ _ _ _ _ _ _ _ _ _ _ _ _ _ _ _ _ _ _ _ _ _ _ _ _ _ _ _ _ _ _ _ _ _ _ _ _ _ _ _ _ _ ?_
    intro eH eI eJ eK eL eM eN eO v3 w7 H7;have HR7:=hd_ (HNX.out v3 w7 H7.out);clear H7;go_wp2_with fail;go_roundw
    case rel=>exact⟨k+1,by go_num,by omega,HR7.out⟩
    case measure=>simp [intOf];omega
   ·have hke:k=es.length:=by omega
    have q:decide ((k:Int)<(es.length:Int))=false:=by simp;omega
    have q':decide (k<es.length)=false:=by simp;omega
    have HZ:Hid (WaI w2 wr w2.heap.size D es num es.length):=hd_ (by rw[← hke];exact HI.out)
    clear hke;go_wp2_with fail;go_meet
    exact HZ.out
 case rest =>
  obtain⟨v1,hAP⟩:=hcut.out;rw[List.take_length,← List.flatMap_append] at hAP;have HAP2:=hd_ hAP;have HWC:Hid (Below W1.heap.size W1 wc):=hd_ (z0r HB2.out hAP.bel);clear hAP hcut;go_upto_region 11 with fail;refine waR11 _ (by kernel_rfl) _ w.heap.size (w.heap.size+1) w2.heap.size (D.length+es.length) num ⟨#[]⟩ ⟨#[]⟩ Aq Ae es.length cq ce (.slice Ar D.length cr) v1 _ w2 wc HAP2.out (HD1.out.below HWC.out HD1.out.lt) (HC1.out.below HWC.out HC1.out.lt) (z48.below HQ.out (z0r Hb1.out HWC.out)) _ _ _ _ _ _ _ _ _ _ _ _ _ _ _ _ _ _ _ _ _ _ _ _ _ _ _ _ _ _ _ _ _ _ _ _ _ _ _ _ _ _ _ _ _ _ _ ?_
  intro eQ eR eS eT eU eV eW eX eY eZ A2 c2 w7 H7;obtain⟨A8,c8,hv1⟩:=z0o H7.out.2.2.1;subst hv1;have hB7:=z0r HB2.out H7.out.1;have hR4:=HZ1.out.below hB7 HZ1.out.lt;obtain⟨r0,r1,f0,f1⟩:=box2 hR4;obtain⟨p0,p1,-,-⟩:=box2 H7.out.2.1;have HB7:=hd_ (z0r Hb1.out hB7);have HLT:=hd_ HZ1.out.lt;have HSZ2:=hd_ HB2.out.size;clear hB7;go_wp2_with fail;have hR5:=(hR4.set_ 0 (Value.slice A8 (D.length+es.length) c8)).set_ 1 (Value.slice A2 0 c2);have hB5:=(HB7.out.setCell (p:=⟨w.heap.size+1+1,0,none⟩) (by simp;omega) (Value.slice A8 (D.length+es.length) c8)).setCell (p:=⟨w.heap.size+1+1,1,none⟩) (by simp;omega) (Value.slice A2 0 c2)
  have n1:(Value.slice A8 (D.length+es.length) c8).ownBlock≠some (w.heap.size+1+1):=fun e=>by have:=(H7.out.2.2.1.lt _ e).1;have:=HLT.out;have:=HSZ2.out;omega
  have k2:=z4r (z4r H7.out.2.2.1 (p:=⟨w.heap.size+1+1,0,none⟩) n1 (Value.slice A8 (D.length+es.length) c8)) (p:=⟨w.heap.size+1+1,1,none⟩) n1 (Value.slice A2 0 c2);have k1:=Row.of_own k2;have k3:=k2.lt;clear k2;have hw2:w.heap.size≤w2.heap.size:=by have:=Hb1.out.size;have:=HSZ2.out;omega
  clear r0 r1 f0 f1 hR4 p0 p1;generalize (w7.setCell ⟨w.heap.size+1+1,0,none⟩ (Value.slice A8 (D.length+es.length) c8)).setCell ⟨w.heap.size+1+1,1,none⟩ (Value.slice A2 0 c2)=W5 at hR5 hB5 k1 k3 ⊢;obtain⟨r0,r1,-,-⟩:=box2 hR5;refine bodyPost_ret (v:=.tuple #[.agg #[(Value.slice A8 (D.length+es.length) c8),(Value.slice A2 0 c2)],.int .i64 0]) (by simp [results,Tryz.results58,go_sem,r0,r1]) rfl ?_
  refine⟨hB5,.inr ⟨A8,A2,c8,c2,rfl,?_,fun x hx=>⟨Nat.le_trans hw2 (k3 x hx).1,(k3 x hx).2⟩,?_⟩⟩
  ·show Row W5 12 _ (D++es.map (zhy num)).length _
   rw[List.length_append,List.length_map];exact k1
  ·obtain⟨A,c,e,hc,hm,hl,h0,-⟩:=H7.out.2.2.2;exact⟨A,c,e,hc,hm,hl,h0,fun h=>absurd h (by decide)⟩
theorem knGrow (w:World):Calls Tryz.prog 118 #[.slice none 0 0,.int .i64 0] w fun e w'=>e=.returned (.slice none 0 0)∧w=w':=by
 go_enter Tryz.func118,Tryz.ntmps118;go_wp2_with fail;go_ret;exact⟨rfl,rfl⟩
theorem zii (g:Nat)(w:World)(hB:Blk w g 24 [.slice none 0 0,.slice none 0 0]):Calls Tryz.prog 75 #[.slice (some ⟨g,0,none⟩) 2 2] w fun e w'=>∃ A c,e=.returned (.slice A 0 c)∧Below w.heap.size w w':=by
 have b0:w.cell? ⟨g,0,none⟩=some (.slice none 0 0):=hB.cell 0;have b1:w.cell? ⟨g,1,none⟩=some (.slice none 0 0):=hB.cell 1;have HB:=hd_ hB;have HG:=hd_ (knGrow w);clear hB;go_enter Tryz.func75,Tryz.ntmps75;go_wp2_with fail;refine wp_loop_rounds 3 ?_;rw[rounds_succ];go_wp2_with fail;rw[rounds_succ];go_wp2_with fail;rw[rounds_succ];go_wp2_with fail;refine HG.out.mono ?_;rintro e w1 ⟨rfl,rfl⟩;go_wp2_with fail;refine wp_loop_rounds 3 ?_;rw[rounds_succ];go_wp2_with (at_builtin;refine z0j (base:=w.heap.size) (n:=0) (xs:=[]) (m:=0) (news:=[]) rfl rfl zgu (World.ownsRow_nil _ _ _ _) rfl (z48.nil_ w) rfl (fun u h=>by cases h) (by omega) (by unfold maxLen;omega) (Nat.le_refl _) ?_;intro A' c' w2 hO2 hG2 hw2)
 have HO2:=hd_ hO2;have HB2:=hd_ (zie hG2 rfl);have b1:w2.cell? ⟨g,1,none⟩=some (.slice none 0 0):=(HB.out.below HB2.out HB.out.lt).cell 1;clear hO2 hG2 hw2 b0;rw[rounds_succ];go_wp2_with (at_builtin;refine z0j (base:=w.heap.size) (m:=0) (news:=[]) rfl rfl zgu HO2.out rfl (z48.nil_ w2) rfl (fun u h=>by cases h) (by omega) (by unfold maxLen;omega) HB2.out.size ?_;intro A3 c3 w3 hO3 hG3 hw3)
 have HB3:Hid (Below w.heap.size w w3):=hd_ (HB2.out.grown hG3 HB2.out.size (fun k e=>(HO2.out.lt k e).1));clear hO3 hG3 hw3;rw[rounds_succ];go_wp2_with fail;go_ret;exact⟨_,_,rfl,HB3.out⟩
theorem knSort (A:Option Addr)(c:Nat)(cv:Value)(w:World):Calls Tryz.prog 77 #[.slice A 0 c,cv] w fun e w'=>e=.returned (.tuple #[])∧w=w':=by
 have H:=hd_ (z5w (.slice A 0 c) cv w);go_enter Tryz.func77,Tryz.ntmps77;go_wp2_with fail;refine H.out.mono ?_;rintro e w' ⟨rfl,rfl⟩;go_wp2_with fail;go_end0
 exact⟨rfl,rfl⟩
theorem knClone (w:World):Calls Tryz.prog 74 #[.slice none 0 0] w fun e w'=>e=.returned (.slice none 0 0)∧w=w':=by
 go_enter Tryz.func74,Tryz.ntmps74;have heq:∀ W,(binOp .eql 23 (.slice none 0 0) (.slice none 0 0)).run Tryz.prog W=.ok (.bool true) W:=fun W=>by kernel_rfl
 go_wp2_with fail;go_ret;exact⟨rfl,rfl⟩
structure KnW (w X:World)(g bl be bn:Nat)(Ae:Option Addr)(ce:Nat):Prop where
 bel:Below w.heap.size w X
 chk:Chk X g (.slice none 0 0) (.slice none 0 0) 1 ⟨#[]⟩ ⟨#[]⟩ (.slice Ae 2 ce) (.slice none 0 0) bl be bn
 last:z7r X bl zgn
 edt:∃ F,z7s X be F
 ne:bl≠be
 le:w.heap.size≤be
theorem knNew (Ae:Option Addr)(ce:Nat)(w:World):Calls Tryz.prog 72 #[.agg #[.slice none 0 0,.slice none 0 0],.agg #[.int .i64 1,.string ⟨#[]⟩,.string ⟨#[]⟩,.slice Ae 2 ce,.slice none 0 0]] w fun e w'=>∃ g bl be bn,e=.returned (.pointer (some ⟨g,0,none⟩))∧KnW w w' g bl be bn Ae ce:=by
 have hmm:=@run_makeMap Tryz.prog;go_enter Tryz.func72,Tryz.ntmps72;go_wp2_with fail;refine wp_loop_rounds 1 ?_;rw[rounds_succ];go_wp2_with fail;go_ret;refine⟨w.heap.size+1+1+1+1+1,w.heap.size+1+1,w.heap.size+1+1+1,w.heap.size+1+1+1+1,rfl,((((((Below.refl _ _).alloc (Nat.le_refl _) _).alloc (by simp) _).alloc (by simp;omega) _).alloc (by simp;omega) _).alloc (by simp;omega) _).alloc (by simp;omega) _,?_,?_,⟨fun _=>none,?_⟩,?_,?_⟩
 case refine_1=>
  have:=z0l (((((w.alloc (.cells #[.slice none 0 0,.slice none 0 0] 26)).alloc (.cells #[.int .i64 1,.string ⟨#[]⟩,.string ⟨#[]⟩,.slice Ae 2 ce,.slice none 0 0] 95)).alloc (.map #[] 0)).alloc (.map #[] 0)).alloc (.map #[] 0)) [.slice none 0 0,.slice none 0 0,.int .i64 1,.string ⟨#[]⟩,.string ⟨#[]⟩,.slice Ae 2 ce,.slice none 0 0,.map (some (w.heap.size+1+1)),.map (some (w.heap.size+1+1+1)),.map (some (w.heap.size+1+1+1+1))] 183;simp only[World.size_alloc] at this
  exact this
 case refine_2 =>
  have:=z2f.new Value.string Rev.val ((w.alloc (.cells #[.slice none 0 0,.slice none 0 0] 26)).alloc (.cells #[.int .i64 1,.string ⟨#[]⟩,.string ⟨#[]⟩,.slice Ae 2 ce,.slice none 0 0] 95));simp only[World.size_alloc] at this
  exact z2f.alloc (z2f.alloc (z2f.alloc this _) _) _
 case refine_3 =>
  have:=z2f.new Value.string Edt.val (((w.alloc (.cells #[.slice none 0 0,.slice none 0 0] 26)).alloc (.cells #[.int .i64 1,.string ⟨#[]⟩,.string ⟨#[]⟩,.slice Ae 2 ce,.slice none 0 0] 95)).alloc (.map #[] 0));simp only[World.size_alloc] at this
  exact z2f.alloc (z2f.alloc this _) _
 case refine_4=>omega
 case refine_5=>omega
theorem knSteps (g:Nat)(w:World):Calls Tryz.prog 73 #[.pointer (some ⟨g,0,none⟩)] w fun e w'=>e=.returned (.slice (some ⟨w.heap.size,0,none⟩) 5 5)∧Below w.heap.size w w'∧Blk w' w.heap.size 141 [.func (.func 113) #[.pointer (some ⟨g,0,none⟩)] #[],.func (.func 114) #[.pointer (some ⟨g,0,none⟩)] #[],.func (.func 115) #[.pointer (some ⟨g,0,none⟩)] #[],.func (.func 116) #[.pointer (some ⟨g,0,none⟩)] #[],.func (.func 117) #[.pointer (some ⟨g,0,none⟩)] #[]]:=by
 go_enter Tryz.func73,Tryz.ntmps73;go_wp2_with fail;go_ret;exact⟨rfl,(Below.refl _ _).alloc (Nat.le_refl _) _,z0l w _ _⟩
theorem zij (p:ByteArray)(g bl be bn:Nat)(Ae:Option Addr)(ce:Nat)(w:World)(hk:Chk w g (.slice none 0 0) (.slice none 0 0) 1 ⟨#[]⟩ ⟨#[]⟩ (.slice Ae 2 ce) (.slice none 0 0) bl be bn)(hL:z7r w bl zgn):Calls Tryz.prog 76 #[.pointer (some ⟨g,0,none⟩),.agg #[.string p,.int .i64 1,.int .i64 1,.bool false,.bool false,.bool false,.int .u64 1,.int .i64 1,.int .i64 0,.string ⟨#[]⟩,.int .i64 0,.int .i64 0]] w fun e w'=>e=.returned (.agg #[.string p,.int .i64 1,.int .i64 1,.int .i64 1,.int .i64 1,.bool false,.bool false,.bool false,.int .u64 1,.int .i64 1,.string ⟨#[]⟩,.int .i64 0])∧Below w.heap.size w w':=
 zht zgn (knE p) g _ _ _ _ 1 _ _ bl be bn w hk hL (Int.le_refl 0) (show (0:Int)≤1000000 by decide)
open Go.Sort (grow)
def flH (h:Hav):Fl:=(h.path,h.loc)
def prF (pl:List Syn)(L:List Nat)(k:Nat):List Syn:=(L.take k).filterMap fun i=>pl[i]?
theorem zl3 {pl:List Syn}{L:List Nat}{k i:Nat}(hk:k<L.length)(hi:i<pl.length)(e:L[k]=i):prF pl L (k+1)=prF pl L k++[pl[i]]:=by
 unfold prF;rw[List.take_succ_eq_append_getElem hk,List.filterMap_append,e];simp [List.getElem?_eq_getElem hi]
structure Bk4 (X wr:World)(B B2:Nat)(Ap:Option Addr)(c bC:Nat)(hs:List Hav)(pl:List Syn)(N:Nat)(b:ByteArray→Bool)(QH:List Hav)(qv:Value):Prop where
 mem:Bk3 X wr B B2 Ap c bC pl b QH qv
 st:BkSt hs pl b (QH.map flH)
 num:QH.length+zki b pl≤N
structure Bk5 (X wr:World)(B B2:Nat)(Ap:Option Addr)(c bC g13:Nat)(hs:List Hav)(pl:List Syn)(N:Nat)(b:ByteArray→Bool)(QH:List Hav)(qv:Value)(h:Hav)(Ar:Option Addr)(mr k:Nat):Prop where
 mem:Bk3 X wr B B2 Ap c bC pl b QH qv
 st:BkIn hs pl b (QH.map flH) h.path h.loc (prF pl (zkq pl pl.length h.loc) k)
 num:QH.length+zki b pl≤N
 box:Blk wr g13 44 [.string h.path,.int .i64 h.num,.string h.loc]
 far:B2≤g13
 row:wr.ownsRow X.heap.size 3 1 (.slice Ar (zkq pl pl.length h.loc).length mr) (zkq pl pl.length h.loc).length (zkl (zkq pl pl.length h.loc))
 rup:∀ x,(Value.slice Ar (zkq pl pl.length h.loc).length mr).ownBlock=some x→x<B2∧X.heap.size≤x
 qne:qv.ownBlock≠some g13
section
variable {X wr wx : World} {B B2 g c bC g13 N k i mr : Nat} {Ap : Option Addr} {hs : List Hav} {pl : List Syn} {b : ByteArray → Bool} {QH : List Hav} {qv : Value} {h : Hav} {Ar : Option Addr}
theorem Bk5.under (H:Bk5 X wr B B2 Ap c bC g13 hs pl N b QH qv h Ar mr k)(hb:Below wr.heap.size wr wx)(hB:B≤B2):Bk5 X wx B B2 Ap c bC g13 hs pl N b QH qv h Ar mr k:=⟨H.mem.under hb hB,H.st,H.num,H.box.below hb H.box.lt,H.far,z0n H.row hb,H.rup,H.qne⟩
theorem Bk5.at_ (H:Bk5 X wr B B2 Ap c bC g13 hs pl N b QH qv h Ar mr k)(hk:k<(zkq pl pl.length h.loc).length):∃ ad,Ar=some ad∧ad.block<wr.heap.size∧wr.cell? (ad.add k)=some (.int .i64 ((zkq pl pl.length h.loc)[k]:Nat)):=by
 obtain⟨A',m',e,-,-,-,-,hx⟩:=Row.of_own H.row;injection e with e1 e2 e3
 obtain⟨ad,e4,hb,hc⟩:=hx (by omega)
 refine⟨ad,by rw[e1,e4],hb,hc k _ ?_⟩
 unfold zkl;rw[List.getElem?_map,List.getElem?_eq_getElem hk];rfl
theorem Bk3.at3 (H:Bk3 X wr B B2 (some ⟨g,0,none⟩) c bC pl b QH qv)(hi:i<pl.length):z50 wr ⟨g,i * 5,none⟩ (zef b pl[i])∧wr.frozen? ⟨g,i * 5,none⟩=false:=by
 have hk2:i<(zeg b pl).length:=by rw[zl2];exact hi
 have e:(zeg b pl)[i]=zef b pl[i]:=by
  show (pl.map (zef b))[i]'(by rw[List.length_map];exact hi)=_
  rw[List.getElem_map]
 have:=zjv.cell H.own hk2;rw[e] at this;exact this
theorem Bk5.skip (H:Bk5 X wr B B2 Ap c bC g13 hs pl N b QH qv h Ar mr k)(hk:k<(zkq pl pl.length h.loc).length)(hi:i<pl.length)(e:(zkq pl pl.length h.loc)[k]=i)(hx:pl[i].path=h.path∨z3o pl[i].kind=true∨b pl[i].path=true):
  Bk5 X wr B B2 Ap c bC g13 hs pl N b QH qv h Ar mr (k+1):=⟨H.mem,by rw[zl3 hk hi e];exact bk_skip H.st hx,H.num,H.box,H.far,H.row,H.rup,H.qne⟩
theorem com_at (hk:k<(zkq pl pl.length h.loc).length):∃ i,∃ hi:i<pl.length,(zkq pl pl.length h.loc)[k]=i∧pl[i].dst=h.loc∧pl[i].dst≠z2l:=by
 obtain⟨h1,x,h2,h3,h4⟩:=comF_lt (List.getElem_mem hk);refine⟨_,h1,rfl,?_⟩;rw[List.getElem?_eq_getElem h1] at h2;injection h2 with h2
 rw[h2];exact⟨h3,h4⟩
theorem Bk5.set_ (H:Bk5 X wr B B2 Ap c bC g13 hs pl N b QH qv h Ar mr k)(hg:g<X.heap.size)(hX2:X.heap.size≤B2)(u:Value):Blk (wr.setCell ⟨g,i * 5,none⟩ u) g13 44 [.string h.path,.int .i64 h.num,.string h.loc]∧(wr.setCell ⟨g,i * 5,none⟩ u).ownsRow X.heap.size 3 1 (.slice Ar (zkq pl pl.length h.loc).length mr) (zkq pl pl.length h.loc).length (zkl (zkq pl pl.length h.loc)):=
 ⟨Blk.far H.box (by show g≠g13;have:=H.far;omega) u,z4r H.row (p:=⟨g,i * 5,none⟩) (fun e=>by have:=(H.rup g e).2;omega) u⟩
theorem Bk5.markN (H:Bk5 X wr B B2 (some ⟨g,0,none⟩) c bC g13 hs pl N b QH qv h Ar mr k)(hOk:zf0 hs)(hsrt:z6c pl)(hfrm:∀ x∈pl,x.frm=zk4 hs x.path)(hB:B≤g)(hg:g<X.heap.size)(hX2:X.heap.size≤B2)(hC:X.heap.size≤bC)
  (hk:k<(zkq pl pl.length h.loc).length) (hi:i<pl.length) (e:(zkq pl pl.length h.loc)[k]=i) (hl:pl[i].dst=h.loc) (hd:pl[i].dst≠z2l) (hp:pl[i].path≠h.path) (hst:z3o pl[i].kind=false) (hb:b pl[i].path=false) (hf:pl[i].frm=z2l):
  Bk5 X (wr.setCell ⟨g,i * 5,none⟩ (.int .i64 5)) B B2 (some ⟨g,0,none⟩) c bC g13 hs pl N (setB b pl[i].path) QH qv h Ar mr (k+1)∧QH.length+zki (setB b pl[i].path) pl≤QH.length+zki b pl:=by
 have hm:=zkh hsrt hOk hfrm H.st (List.getElem_mem hi) hp hst hd hl;rw[if_pos hf,← zl3 hk hi e] at hm;have hn:=zkj (List.getElem_mem hi) hst hb;have hnum:=H.num;exact⟨⟨H.mem.mark_ hsrt hi hg hB hX2 hC,hm,by omega,(H.set_ hg hX2 _).1,H.far,(H.set_ hg hX2 _).2,H.rup,H.qne⟩,by omega⟩
theorem Bk5.markY {A':Option Addr}{c':Nat}(H:Bk5 X wr B B2 (some ⟨g,0,none⟩) c bC g13 hs pl N b QH qv h Ar mr k)(hOk:zf0 hs)(hsrt:z6c pl)(hfrm:∀ x∈pl,x.frm=zk4 hs x.path)(hB:B≤g)(hg:g<X.heap.size)(hX2:X.heap.size≤B2)(hC:X.heap.size≤bC)
  (hk:k<(zkq pl pl.length h.loc).length) (hi:i<pl.length) (e:(zkq pl pl.length h.loc)[k]=i) (hl:pl[i].dst=h.loc) (hd:pl[i].dst≠z2l) (hp:pl[i].path≠h.path) (hst:z3o pl[i].kind=false) (hb:b pl[i].path=false) (hf:¬ pl[i].frm=z2l)
  (hq:zk1 wx B2 44 3 (.slice A' (QH.length+1) c') (QH.length+1) (QH.flatMap Hav.cells++[.string pl[i].path,.int .i64 0,.string pl[i].frm])) (hs2:zl1 (wr.setCell ⟨g,i * 5,none⟩ (.int .i64 5)) wx qv) (hob:(Value.slice A' (QH.length+1) c').ownBlock=qv.ownBlock∨∃ x,(Value.slice A' (QH.length+1) c').ownBlock=some x∧(wr.setCell ⟨g,i * 5,none⟩ (.int .i64 5)).heap.size≤x):
  Bk5 X wx B B2 (some ⟨g,0,none⟩) c bC g13 hs pl N (setB b pl[i].path) (QH++[⟨pl[i].path,0,pl[i].frm⟩]) (.slice A' (QH.length+1) c') h Ar mr (k+1)∧(QH.length+1)+zki (setB b pl[i].path) pl≤QH.length+zki b pl:=by
 have hm:=zkh hsrt hOk hfrm H.st (List.getElem_mem hi) hp hst hd hl;rw[if_neg hf,← zl3 hk hi e] at hm;have hn:=zkj (List.getElem_mem hi) hst hb;have hnum:=H.num;have hm3:=H.mem.mark_ hsrt hi hg hB hX2 hC;obtain⟨b1,b2⟩:=H.set_ (i:=i) hg hX2 (.int .i64 5);have hlt:=H.mem.que.lt;refine⟨⟨hm3.push (y:=⟨pl[i].path,0,pl[i].frm⟩) (by omega) (fun x e=>by injection e with e;have e':g=x:=e;omega) hq hs2,?_,by rw[List.length_append];simp;omega,?_,H.far,?_,H.rup,?_⟩,by omega⟩
 ·rw[List.map_append];exact hm
 ·exact (hs2.block b1.lt H.qne).trans b1
 ·refine⟨b2.1,?_⟩;rcases b2.2 with e4 | ⟨g',cap,cur,e1,h1,h2,h3⟩
  ·exact .inl e4
  ·refine .inr ⟨g',cap,cur,e1,h1,(hs2.block (Array.getElem?_eq_some_iff.1 h2).1 (fun e2=>?_)).trans h2,h3⟩;have a1:=(hlt g' e2).1;have a2:=(H.rup g' (by rw[e1];rfl)).1
   omega
 ·rcases hob with e5 | ⟨x,e5,h5⟩
  ·rw[e5];exact H.qne
  ·rw[e5];intro e6;injection e6 with e6;have:=b1.lt;omega
end
theorem bkT17 (T:Code)(hT:Tryz.f38.body.bind (zhv 17)=some T)(R:Ending→World→Prop)(X w:World)(B B2 g c bC N:Nat)(Ap:Option Addr)(hs:List Hav)(pl:List Syn)(hAp:0<pl.length→Ap=some ⟨g,0,none⟩)(QH:List Hav)(Aq:Option Addr)(cq:Nat)
  (hI:Bk4 X w B B2 Ap c bC hs pl N (fun _=>false) QH (.slice Aq QH.length cq)) (hOk:zf0 hs) (hsrt:z6c pl) (hfrm:∀ x∈pl,x.frm=zk4 hs x.path)
  (hB:B≤g) (hg:g<X.heap.size) (hX2:X.heap.size≤B2) (hC:X.heap.size≤bC) (hn:pl.length≤1000000) (hN:N≤1000000)
  (hR:∀ w',zjv w' B (.slice Ap pl.length c) (zeg (blB hs pl) pl)→Below B X w'→R (.returned (.tuple #[])) w')
  (u0 u2 u3 u4 u6 u7 u9 gn gt gu gx gy gz gA gC gD gE gF gG gH gI gJ gK gL gM gN gO gP gQ gR gT gV gW gX gY gZ i6 i7 i8 ia ib ic ie ig ii ij ik il im io ip iq ir iu iv iw ix iy iz iA iB iC iD iE iF iG iH iI iJ iK iL iM iN iO iP iQ iR iS iT iU iV iW iX iY iZ j0 j1 j2 j5 j6 j7 j8 j9 jb jd je jf bw bz bA bB bD bE bF bG bH bI bJ bK bL bM bN bO bP bQ bT bU bV bW bX bY bZ ca cj:Value):
  T.wp Tryz.prog (bodyPost Tryz.prog Tryz.f38 R) ⟨#[u0,.slice Ap pl.length c,u2,u3,u4,.map (some bC),u6,u7,.slice Aq QH.length cq,u9,gn,gt,gu,gx,gy,gz,gA,gC,gD,gE,gF,gG,gH,gI,gJ,gK,gL,gM,gN,gO,gP,gQ,gR,gT,gV,gW,gX,gY,gZ,i6,i7,i8,ia,ib,ic,ie,ig,ii,ij,ik,il,im,io,ip,iq,ir,iu,iv,iw,ix,iy,iz,iA,iB,iC,iD,iE,iF,iG,iH,iI,iJ,iK,iL,iM,iN,iO,iP,iQ,iR,iS,iT,iU,iV,iW,iX,iY,iZ,j0,j1,j2,j5,j6,j7,j8,j9,jb,jd,je,jf,bw,bz,bA,bB,bD,bE,bF,bG,bH,bI,bJ,bK,bL,bM,bN,bO,bP,bQ,bT,bU,bV,bW,bX,bY,bZ,ca,cj],[]⟩ w:=by
 simp only[Tryz.f38,Option.bind_some,zhv,zhu] at hT
 simp at hT
 subst hT;have HI:=hd_ hI;have HOK:=hd_ hOk;have HSRT:=hd_ hsrt;have HFRM:=hd_ hfrm;have HR:=hd_ hR;have hBB:B≤B2:=by omega
 clear hI hOk hsrt hfrm hR;go_wp2_with fail;go_loopg [8] (N+1) (fun gk q wr=>∃(b:ByteArray→Bool) (QH:List Hav) (A:Option Addr) (cq:Nat),q=.slice A QH.length cq∧QH.length+zki b pl<gk∧Hid (Bk4 X wr B B2 Ap c bC hs pl N b QH q))
 case atStart=>exact⟨fun _=>false,QH,Aq,cq,rfl,by have:=HI.out.num;omega,HI⟩
 case round =>
  clear HI;obtain⟨b,QH,A,cq,rfl,hgk,HS⟩:=hrel;cases QH with
  | nil =>
   have HF:=hd_ (HR.out wr (by rw[← bk_over (by have:=HS.out.st;exact this)];exact HS.out.mem.own) HS.out.mem.low)
   clear HS;go_wp2_with fail;go_end0
   exact HF.out
  | cons h Q' =>
   have hqq:zk1 wr B2 44 3 (.slice A (Q'.length+1) cq) (Q'.length+1) ((h :: Q').flatMap Hav.cells):=HS.out.mem.que;have hrow:z4b wr (.slice A (Q'.length+1) cq) (h :: Q'):=hqq.row;obtain⟨-,ad,rfl,hab,s0,s1,s2⟩:=hrow.head;have hA:Below wr.heap.size wr (wr.alloc (.cells #[.string h.path,.int .i64 h.num,.string h.loc] 44)):=(Below.refl _ _).alloc (Nat.le_refl _) _;obtain⟨Ar,mr,hlk,hrw,hru,-⟩:=(HS.out.mem.com.keep (fun x hx _=>hA.block x (Nat.lt_of_lt_of_le hx HS.out.mem.b2))).look h.loc;have hpop:Bk3 X wr B B2 Ap c bC pl b (h :: Q') (.slice (some ad) (Q'.length+1) cq):=HS.out.mem;have hqlt:=hqq.lt;have HS5:Hid (Bk5 X (wr.alloc (.cells #[.string h.path,.int .i64 h.num,.string h.loc] 44)) B B2 Ap c bC wr.heap.size hs pl N b Q' (.slice (if cq=1 then some ad else some ⟨ad.block,ad.off+3,none⟩) Q'.length (cq - 1)) h Ar mr 0):=hd_
    ⟨(hpop.pop).under hA hBB,by have:=HS.out.st;rw[List.map_cons] at this;exact bk_pop this,by have:=HS.out.num;rw[List.length_cons] at this;omega,z0l wr _ _,HS.out.mem.b2,hrw,hru,by
     intro e;have hlt:ad.block<wr.heap.size:=hab;split at e
     ·injection e with e;omega
     ·injection e with e
      have e':ad.block=wr.heap.size:=e;omega⟩
   have hz:(0:Int)<((Q'.length+1:Nat):Int):=by omega
   have hgk2:Q'.length+zki b pl+1<gk:=by rw[List.length_cons] at hgk;omega
   have HLK:=hd_ hlk;clear hA hlk hrw hru hpop hqlt hqq hrow HS hgk;dsimp only [List.length_cons]
   go_upto_region 20 with fail;have hl:=HLK.out _ rfl;generalize (if cq=1 then some ad else some ⟨ad.block,ad.off+3,none⟩)=A1 at HS5 ⊢;generalize cq - 1=c1 at HS5 ⊢;generalize wr.heap.size=g13 at HS5 ⊢;generalize wr.alloc (.cells #[.string h.path,.int .i64 h.num,.string h.loc] 44)=W1 at HS5 hl ⊢;clear HLK hab s0 s1 s2 hz;have d2:W1.cell? ⟨g13,2,none⟩=some (.string h.loc):=HS5.out.box.cell 2;obtain⟨L,hL⟩:∃ L,zkq pl pl.length h.loc=L:=⟨_,rfl⟩;have hLb:L.length≤1000000:=by rw[← hL];exact Nat.le_trans (zks _ _ _) hn
   have HL:=hd_ hL;rw[hL] at hl;clear hL;go_wp2_with fail;clear hl d2;go_loopw [8,83] (fun q i wq=>∃(b:ByteArray→Bool) (QH:List Hav) (A:Option Addr) (cq k:Nat),q=.slice A QH.length cq∧i=.int .i64 k∧k≤L.length∧QH.length+zki b pl+1<gk∧Hid (Bk5 X wq B B2 Ap c bC g13 hs pl N b QH q h Ar mr k)) (fun _ i _=>L.length - (intOf i).toNat)
   case atStart=>exact⟨b,Q',_,_,0,rfl,rfl,Nat.zero_le _,hgk2,HS5⟩
   case round =>
    clear HS5;obtain⟨b,QH,A,cq,k,rfl,rfl,hk,hgk,HJ⟩:=hrel;by_cases hlt:k<L.length
    ·have HLT2:=hd_ hlt;have hlt2:k<(zkq pl pl.length h.loc).length:=by rw[HL.out];exact hlt
     obtain⟨i,hi,hki,hdl,hde⟩:=com_at hlt2;obtain⟨ad2,rfl,hab,sI⟩:=HJ.out.at_ hlt2;rw[hki] at sI;have HKI:Hid (∀ hh:k<(zkq pl pl.length h.loc).length,(zkq pl pl.length h.loc)[k]=i):=hd_ (fun _=>hki);have HLT:=hd_ hlt2;have HDL:=hd_ hdl;have HDE:=hd_ hde;obtain rfl:=hAp (by omega)
     obtain⟨hsy,-⟩:=HJ.out.mem.at3 hi;have HSY:=hd_ hsy;clear hki hlt2 hdl hde hab hsy;go_upto_region 23 with fail;refine bkR23 _ (by kernel_rfl) _ wr g pl.length c i g13 (zef b pl[i]) h.path HSY.out (HJ.out.box.cell 0) hi _ _ _ _ _ _ _ _ _ _ _ _ _ _ _ _ _ _ _ _ _ _ _ _ _ _ _ _ _ _ _ _ _ _ _ _ _ _ _ _ _ _ _ _ _ _ _ _ _ _ _ _ _ _ _ _ _ _ _ _ _ _ _ _ _ _ _ _ _ _ _ _ _ _ _ _ _ _ _ _ _ _ _ _ _ _ _ _ _ _ _ _ _ _ _ _ _ _ _ _ _ _ _ _ _ _ _ _ _ _ _ _ _ _ _ _ _ _ _ _ _ _ _ _ ?_
     intro fV fW fX fY fZ ga gb gf gg gh gi gj gm aa w2 hb2;have HJ2:=hd_ (HJ.out.under hb2 hBB);have HPA:=hd_ (zeh b pl[i]);have HMS:=hd_ (zej b pl[i]);clear HSY HJ hb2 sI;cases hbb:(decide ((zef b pl[i]).path=h.path) || z3o (zef b pl[i]).kind) with
     | true =>
      have HN:=hd_ (HJ2.out.skip HLT.out hi (HKI.out _) (by
       rcases Bool.or_eq_true_iff.1 hbb with e | e
       ·exact .inl (by rw[← HPA.out];exact of_decide_eq_true e)
       ·rw[HMS.out] at e;rcases Bool.or_eq_true_iff.1 e with e | e
        ·exact .inr (.inr e)
        ·exact .inr (.inl e)))
      clear hbb;go_wp2_with fail;go_roundw
      case rel=>exact⟨b,QH,A,cq,k+1,rfl,by go_num,by have:=HLT2.out;omega,hgk,HN⟩
      case measure=>have:=HLT2.out;simp [intOf];omega
     | false =>
      obtain⟨e1,e2⟩:=(Bool.or_eq_false_iff).1 hbb;have hp:pl[i].path≠h.path:=by
       rw[← HPA.out];exact of_decide_eq_false e1
      rw[HMS.out] at e2;obtain⟨e3,e4⟩:=(Bool.or_eq_false_iff).1 e2;have HP:=hd_ hp;have HE3:=hd_ e3;have HE4:=hd_ e4;have HM3:=hd_ (HJ2.out.mem.mark_ HSRT.out hi hg hB hX2 hC);obtain⟨⟨y0,-,-,-,-⟩,fz⟩:=HJ2.out.mem.at3 hi;clear hbb e1 e2 e3 e4 hp;go_upto_region 25 with fail;clear y0 fz;obtain⟨⟨-,-,-,y3,-⟩,-⟩:=HM3.out.at3 hi;rw[(zei _ _).2.1] at y3;by_cases hf:pl[i].frm=z2l
      ·obtain⟨HN,hnum⟩:=HJ2.out.markN HOK.out HSRT.out HFRM.out hB hg hX2 hC HLT.out hi (HKI.out _) HDL.out HDE.out HP.out HE4.out HE3.out hf;have HN:=hd_ HN;obtain⟨s1,s2⟩:=z3v hf;clear HM3 hf;generalize w2.setCell ⟨g,i * 5,none⟩ (.int .i64 5)=W3 at HN y3 ⊢;generalize setB b pl[i].path=b2 at HN hnum;generalize pl[i].frm=fr at y3 s1 s2;go_wp2_with fail;go_roundw
       case rel=>exact⟨b2,QH,A,cq,k+1,rfl,by go_num,by have:=HLT2.out;omega,by omega,HN⟩
       case measure=>have:=HLT2.out;simp [intOf];omega
      ·have HF:=hd_ hf;obtain⟨s1,s2⟩:=z3w hf;have HY:=hd_ (fun(A':Option Addr) (c':Nat) (wx:World) h1 h2 h3=>HJ2.out.markY (A':=A') (c':=c') (wx:=wx) HOK.out HSRT.out HFRM.out hB hg hX2 hC HLT.out hi (HKI.out _) HDL.out HDE.out HP.out HE4.out HE3.out HF.out h1 h2 h3);have HQL:=hd_ (show QH.length≤1000000 by have:=HJ2.out.num;omega)
       obtain⟨⟨-,y1,-,-,-⟩,-⟩:=HM3.out.at3 hi;rw[zeh] at y1;have HY1:=hd_ y1;have HY3:=hd_ y3;have HI2:=hd_ hi;clear hf y1;generalize w2.setCell ⟨g,i * 5,none⟩ (.int .i64 5)=W3 at HM3 HY HY1 HY3 y3 ⊢;generalize setB b pl[i].path=b2 at HY HM3;generalize pl[i].frm=fr at HY y3 HY3 s1 s2;generalize pl[i].path=pt at HY HY1;go_upto_region 26 with fail;refine bkR26 _ (by kernel_rfl) _ W3 g pl.length c i QH.length cq B2 A (QH.flatMap Hav.cells) pt fr HM3.out.que HY1.out HY3.out HI2.out HM3.out.b2 (by omega) (by have:=HQL.out;omega) _ _ _ _ _ _ _ _ _ _ _ _ _ _ _ _ _ _ _ _ _ _ _ _ _ _ _ _ _ _ _ _ _ _ _ _ _ _ _ _ _ _ _ _ _ _ _ _ _ _ _ _ _ _ _ _ _ _ _ _ _ _ _ _ _ _ _ _ _ _ _ _ _ _ _ _ _ _ _ _ _ _ _ _ _ _ _ _ _ _ _ _ _ _ _ _ _ _ _ _ _ _ _ _ _ _ _ _ _ _ _ _ _ _ _ _ _ _ _ _ _ _ _ _ ?_
       intro ao ap aq ar au aw ax ay az aA aB aC aD aE A' c' w4 HO;obtain⟨HN,hnum⟩:=HY.out A' c' w4 HO.out.1 HO.out.2.1 HO.out.2.2;have HN:=hd_ HN;clear HY HO HM3;go_wp2_with fail;go_roundw
       case rel=>exact⟨b2,QH++[⟨pt,0,fr⟩],A',c',k+1,by rw[List.length_append];rfl,by go_num,by have:=HLT2.out;omega,by rw[List.length_append];simp;omega,HN⟩
       case measure=>have:=HLT2.out;simp [intOf];omega
    ·have hke:k=L.length:=by omega
     have HF:Hid (Bk4 X wr B B2 Ap c bC hs pl N b QH (.slice A QH.length cq)):=hd_ ⟨HJ.out.mem,bk_end HOK.out HJ.out.st (fun x hx hd hl=>by
      have he:=HL.out;obtain⟨i,hi,hx2⟩:=zkt hx hd;rw[hl] at hi;unfold prF;rw[he,hke,List.take_length,← he];exact List.mem_filterMap.2 ⟨i,hi,hx2⟩),HJ.out.num⟩
     clear HJ hke hk;go_wp2_with fail;go_roundg (QH.length+zki b pl+1)
     case measure=>exact hgk
     case rel=>exact⟨b,QH,A,cq,rfl,by omega,HF⟩
def zl4 (pl:List Syn)(h:Hav):Bool:=match stF pl pl.length h.path with
 | none=>true
 | some i=>((pl[i]?).map fun x=>z3o x.kind).getD true
theorem zl5 {pl:List Syn}(hs:z6c pl)(h:Hav):zl4 pl h=true↔zem pl (fun _=>false) h.path:=by
 unfold zl4 zem;rw[stF_get hs];cases e:stF pl pl.length h.path with
 | none=>simp
 | some i =>
  obtain⟨-,hi,-⟩:=zkv (Nat.le_refl _) e;rw[Option.bind_some,List.getElem?_eq_getElem hi];simp [List.getElem?_eq_getElem hi]
structure Bk2 (w wr:World)(pl:List Syn)(hs:List Hav)(k:Nat)(QH:List Hav)(qv:Value):Prop where
 own:wr.ownsRow w.heap.size 44 3 qv QH.length (QH.flatMap Hav.cells)
 low:Below w.heap.size w wr
 is:QH=(hs.take k).filter (zl4 pl)
theorem Bk2.under {w wr wx:World}{pl:List Syn}{hs:List Hav}{k:Nat}{QH:List Hav}{qv:Value}(h:Bk2 w wr pl hs k QH qv)(hb:Below wr.heap.size wr wx):Bk2 w wx pl hs k QH qv:=⟨z0n h.own hb,z0r h.low hb,h.is⟩
theorem Bk2.skip {w wr:World}{pl:List Syn}{hs:List Hav}{k:Nat}{QH:List Hav}{qv:Value}(h:Bk2 w wr pl hs k QH qv)(hk:k<hs.length)(e:zl4 pl hs[k]=false):Bk2 w wr pl hs (k+1) QH qv:=
 ⟨h.own,h.low,by rw[List.take_succ_eq_append_getElem hk,List.filter_append,← h.is];simp [e]⟩
theorem Bk2.push {w wr wx:World}{pl:List Syn}{hs:List Hav}{k:Nat}{QH:List Hav}{qv:Value}{A':Option Addr}{c':Nat}(h:Bk2 w wr pl hs k QH qv)(hk:k<hs.length)(e:zl4 pl hs[k]=true)
  (ho:wx.ownsRow w.heap.size 44 3 (.slice A' (QH.length+1) c') (QH.length+1) (QH.flatMap Hav.cells++hs[k].cells)) (hg:wr.grownBy wx qv.ownBlock):Bk2 w wx pl hs (k+1) (QH++[hs[k]]) (.slice A' (QH.length+1) c'):=by
 refine⟨?_,h.low.grown hg h.low.size (fun x hx=>(h.own.lt x hx).1),by rw[List.take_succ_eq_append_getElem hk,List.filter_append,← h.is];simp [e]⟩
 rw[List.length_append,List.flatMap_append];have e2:[hs[k]].flatMap Hav.cells=hs[k].cells:=by simp
 rw[e2];exact ho
theorem Bk2.len {w wr:World}{pl:List Syn}{hs:List Hav}{k:Nat}{QH:List Hav}{qv:Value}(h:Bk2 w wr pl hs k QH qv):QH.length≤hs.length:=by
 rw[h.is];exact Nat.le_trans (List.length_filter_le _ _) (by rw[List.length_take];exact Nat.min_le_right _ _)
theorem zl6 (pl:List Syn):zeg (fun _=>false) pl=pl:=by
 unfold zeg;have:(zef fun _=>false)=id:=by funext x;rfl
 rw[this,List.map_id]
theorem zl7 (b:ByteArray→Bool)(pl:List Syn):zki b pl≤pl.length:=List.length_filter_le _ _
theorem bkT9 (T:Code)(hT:Tryz.f38.body.bind (zhv 9)=some T)(R:Ending→World→Prop)(X w:World)(B g c bS bC:Nat)(hs:List Hav)(pl:List Syn)(Ah Ap:Option Addr)(ch:Nat)(hAp:0<pl.length→Ap=some ⟨g,0,none⟩)
  (hI:Bk1 X w bS bC (stF pl pl.length) (zkq pl pl.length)) (hO:zjv w B (.slice Ap pl.length c) pl) (hL:Below B X w) (hH:z4b w (.slice Ah hs.length ch) hs) (hOk:zf0 hs) (hsrt:z6c pl) (hfrm:∀ x∈pl,x.frm=zk4 hs x.path)
  (hB:B≤g) (hg:g<X.heap.size) (hn:pl.length≤1000) (hhn:hs.length≤10000)
  (hR:∀ w',zjv w' B (.slice Ap pl.length c) (zeg (blB hs pl) pl)→Below B X w'→R (.returned (.tuple #[])) w')
  (u2 u3 u6 u7 u8 u9 gn gt gu gx gy gz gA gC gD gE gF gG gH gI gJ gK gL gM gN gO gP gQ gR gT gV gW gX gY gZ i6 i7 i8 ia ib ic ie ig ii ij ik il im io ip iq ir iu iv iw ix iy iz iA iB iC iD iE iF iG iH iI iJ iK iL iM iN iO iP iQ iR iS iT iU iV iW iX iY iZ j0 j1 j2 j5 j6 j7 j8 j9 jb jd je jf bw bz bA bB bD bE bF bG bH bI bJ bK bL bM bN bO bP bQ bT bU bV bW bX bY bZ ca cj:Value):
  T.wp Tryz.prog (bodyPost Tryz.prog Tryz.f38 R) ⟨#[.slice Ah hs.length ch,.slice Ap pl.length c,u2,u3,.map (some bS),.map (some bC),u6,u7,u8,u9,gn,gt,gu,gx,gy,gz,gA,gC,gD,gE,gF,gG,gH,gI,gJ,gK,gL,gM,gN,gO,gP,gQ,gR,gT,gV,gW,gX,gY,gZ,i6,i7,i8,ia,ib,ic,ie,ig,ii,ij,ik,il,im,io,ip,iq,ir,iu,iv,iw,ix,iy,iz,iA,iB,iC,iD,iE,iF,iG,iH,iI,iJ,iK,iL,iM,iN,iO,iP,iQ,iR,iS,iT,iU,iV,iW,iX,iY,iZ,j0,j1,j2,j5,j6,j7,j8,j9,jb,jd,je,jf,bw,bz,bA,bB,bD,bE,bF,bG,bH,bI,bJ,bK,bL,bM,bN,bO,bP,bQ,bT,bU,bV,bW,bX,bY,bZ,ca,cj],[]⟩ w:=by
 simp only[Tryz.f38,Option.bind_some,zhv,zhu] at hT
 simp at hT
 subst hT;have HI:=hd_ hI;have HO:=hd_ hO;have HH:=hd_ hH;have HL:=hd_ hL;have HOK:=hd_ hOk;have HSRT:=hd_ hsrt;have HFRM:=hd_ hfrm;have HR:=hd_ hR;have HXW:=hd_ (hI.low.size);have HGW:=hd_ hg;have HS0:Hid (Bk2 w w pl hs 0 [] (.slice none 0 0)):=hd_ ⟨World.ownsRow_nil _ _ _ _,Below.refl _ _,rfl⟩;clear hI hO hL hH hOk hsrt hfrm hR;go_wp2_with fail;go_loopw [8,45] (fun q i wq=>∃(k:Nat) (QH:List Hav) (A:Option Addr) (cq:Nat),q=.slice A QH.length cq∧i=.int .i64 k∧k≤hs.length∧Hid (Bk2 w wq pl hs k QH q)) (fun _ i _=>hs.length - (intOf i).toNat)
 case atStart=>exact⟨0,[],none,0,rfl,rfl,Nat.zero_le _,HS0⟩
 case round =>
  obtain⟨k,QH,A,cq,rfl,rfl,hk,HJ⟩:=hrel;clear HS0;by_cases hlt:k<hs.length
  ·have HLT:=hd_ hlt;have hHX:z4b wr (.slice Ah hs.length ch) hs:=Row.below HH.out HJ.out.low;obtain⟨ad,rfl,hab,s0,s1,s2⟩:=z4b.at_ hHX hlt;have HSK:=hd_ (HJ.out.skip hlt);have HPU:=hd_ (fun(A':Option Addr) (c':Nat) (wx:World) (e:zl4 pl hs[k]=true) (W:World) (hb:Below wr.heap.size wr W) ho hg=>(HJ.out.under hb).push (A':=A') (c':=c') (wx:=wx) hlt e ho hg);have HSP:Hid (zl4 pl hs[k]=match stF pl pl.length hs[k].path with | none=>true | some i=>((pl[i]?).map fun x=>z3o x.kind).getD true):=hd_ rfl
   have HQL:=hd_ (show QH.length≤10000 from Nat.le_trans HJ.out.len hhn);generalize hs[k]=h at s0 s1 s2 HSK HPU HSP;have hA:Below wr.heap.size wr (wr.alloc (.cells #[.string h.path,.int .i64 h.num,.string h.loc] 44)):=(Below.refl _ _).alloc (Nat.le_refl _) _;have hbx:=z0l wr [.string h.path,.int .i64 h.num,.string h.loc] 44;have hst:z2f Value.string natV (wr.alloc (.cells #[.string h.path,.int .i64 h.num,.string h.loc] 44)) bS (stF pl pl.length):=z2f.below (z2f.below HI.out.st HJ.out.low) hA;have hlk:=z2f.lookup hst (z2d Tryz.underlying9) Tryz.underlying122 (z:=.int .i64 0) (by rfl) h.path true
   have HA:=hd_ hA;have HBX:=hd_ hbx;have hown1:zjv (wr.alloc (.cells #[.string h.path,.int .i64 h.num,.string h.loc] 44)) B (.slice Ap pl.length c) pl:=z0n (z0n HO.out HJ.out.low) hA;have HOX:=hd_ hown1;have HQR:=hd_ (HJ.out.under hA).own;clear hHX hbx hst hown1 hab hlt;cases hsf:stF pl pl.length h.path with
   | none =>
    rw[hsf] at hlk;have hlk2:(Instr.lookup 122 (.map (some bS)) (.string h.path) true).run Tryz.prog (wr.alloc (.cells #[.string h.path,.int .i64 h.num,.string h.loc] 44))=.ok (.tuple #[.int .i64 0,.bool false]) (wr.alloc (.cells #[.string h.path,.int .i64 h.num,.string h.loc] 44)):=hlk;have HYES:Hid (zl4 pl h=true):=hd_ (by rw[HSP.out,hsf])
    clear hlk hsf;go_upto_region 13 with fail;generalize wr.alloc (.cells #[.string h.path,.int .i64 h.num,.string h.loc] 44)=W1 at HA HBX hlk2 HOX HQR ⊢;clear s0 s1 s2 hA;obtain⟨d0,d1,d2⟩:=z3s (x:=h) HBX.out;have hrow:=z0i W1 [.string h.path,.int .i64 h.num,.string h.loc] 44 3 1 rfl (by unfold maxLen;omega) W1.heap.size rfl
    have hown2:=zcg HQR.out (.cells #[.string h.path,.int .i64 h.num,.string h.loc] 44);have HQ2:=hd_ hown2;have HQL2:=HQL.out;have hsz:w.heap.size≤(W1.alloc (.cells #[.string h.path,.int .i64 h.num,.string h.loc] 44)).heap.size:=by have:=HJ.out.low.size;have:=HA.out.size;simp;omega
    clear hown2;go_wp2_with (at_builtin;refine z0j rfl rfl z54 HQ2.out rfl hrow rfl (z55 h) (by omega) (by unfold maxLen;omega) hsz ?_;intro A' c' w2 hown hgr hob)
    have HN:=hd_ (HPU.out A' c' w2 HYES.out (W1.alloc (.cells #[.string h.path,.int .i64 h.num,.string h.loc] 44)) (z0r HA.out ((Below.refl _ _).alloc (Nat.le_refl _) _)) hown hgr);clear hown hgr hob hrow hlk2 d0 d1 d2;go_wp2_with fail;go_roundw
    case rel=>exact⟨k+1,QH++[h],A',c',by rw[List.length_append];rfl,by go_num,by have:=HLT.out;omega,HN⟩
    case measure=>have:=HLT.out;simp [intOf];omega
   | some i =>
    rw[hsf] at hlk;have hlk2:(Instr.lookup 122 (.map (some bS)) (.string h.path) true).run Tryz.prog (wr.alloc (.cells #[.string h.path,.int .i64 h.num,.string h.loc] 44))=.ok (.tuple #[.int .i64 i,.bool true]) (wr.alloc (.cells #[.string h.path,.int .i64 h.num,.string h.loc] 44)):=hlk;obtain⟨-,hi,-⟩:=zkv (Nat.le_refl _) hsf;obtain rfl:=hAp (by omega)
    have HSB:Hid (zl4 pl h=z3o pl[i].kind):=hd_ (by rw[HSP.out,hsf];simp [List.getElem?_eq_getElem hi])
    obtain⟨hsy,-⟩:=zjv.cell HOX.out hi;generalize pl[i]=y at HSB hsy;clear hlk hsf;go_upto_region 14 with fail;generalize wr.alloc (.cells #[.string h.path,.int .i64 h.num,.string h.loc] 44)=W1 at HA HBX hsy HOX HQR ⊢;clear s0 s1 s2 hA hlk2;obtain⟨y0,y1,y2,y3,y4⟩:=hsy;have HST:=hd_ (z3u y W1);cases hb:z3o y.kind with
    | false =>
     rw[hb] at HST HSB;have HNO:=hd_ (HSK.out HSB.out);clear hb;go_wp2_with fail;refine HST.out.mono ?_;rintro e w2 ⟨rfl,hb2⟩;dsimp only;have HN:=hd_ (HNO.out.under (z0r HA.out hb2));clear hb2 y0 y1 y2 y3 y4;go_wp2_with fail;go_roundw
     case rel=>exact⟨k+1,QH,A,cq,rfl,by go_num,by have:=HLT.out;omega,HN⟩
     case measure=>have:=HLT.out;simp [intOf];omega
    | true =>
     rw[hb] at HST HSB;clear hb;go_wp2_with fail;refine HST.out.mono ?_;rintro e w2 ⟨rfl,hb2⟩;dsimp only;have HA2:=hd_ (z0r HA.out hb2);have HBX2:=hd_ (HBX.out.below hb2 HBX.out.lt);have HQR2:=hd_ (z0n HQR.out hb2);clear hb2 y0 y1 y2 y3 y4;obtain⟨d0,d1,d2⟩:=z3s (x:=h) HBX2.out;have hrow:=z0i w2 [.string h.path,.int .i64 h.num,.string h.loc] 44 3 1 rfl (by unfold maxLen;omega) w2.heap.size rfl
     have hown2:=zcg HQR2.out (.cells #[.string h.path,.int .i64 h.num,.string h.loc] 44);have HQ2:=hd_ hown2;have HQL2:=HQL.out;have hsz:w.heap.size≤(w2.alloc (.cells #[.string h.path,.int .i64 h.num,.string h.loc] 44)).heap.size:=by have:=HJ.out.low.size;have:=HA2.out.size;simp;omega
     clear hown2;go_wp2_with (at_builtin;refine z0j rfl rfl z54 HQ2.out rfl hrow rfl (z55 h) (by omega) (by unfold maxLen;omega) hsz ?_;intro A' c' w3 hown hgr hob)
     have HN:=hd_ (HPU.out A' c' w3 HSB.out (w2.alloc (.cells #[.string h.path,.int .i64 h.num,.string h.loc] 44)) (z0r HA2.out ((Below.refl _ _).alloc (Nat.le_refl _) _)) hown hgr);clear hown hgr hob hrow d0 d1 d2;go_wp2_with fail;go_roundw
     case rel=>exact⟨k+1,QH++[h],A',c',by rw[List.length_append];rfl,by go_num,by have:=HLT.out;omega,HN⟩
     case measure=>have:=HLT.out;simp [intOf];omega
  ·have hke:k=hs.length:=by omega
   subst hke;have HQE:Hid (QH=hs.filter (zl4 pl)):=hd_ (by have:=HJ.out.is;rw[List.take_length] at this;exact this)
   have HLW:=hd_ HJ.out.low;have HQN:=hd_ HJ.out.len;have HT:=hd_ (fun(T:Code) hT=>bkT17 T hT R X wr B w.heap.size g c bC (hs.length+pl.length) Ap hs pl hAp QH A cq ⟨⟨by rw[zl6];exact z0n HO.out HJ.out.low,(HI.out.com.keep (fun x hx _=>HJ.out.low.block x hx)),HL.out.trans (HJ.out.low.mono (by have:=HXW.out;have:=HGW.out;omega)),zk1.of_own HJ.out.own,HJ.out.low.size⟩,by
    refine bk_init hs pl _ fun q=>?_;rw[HQE.out,List.mem_map];constructor
    ·rintro⟨h,hm,rfl⟩;obtain⟨m1,m2⟩:=List.mem_filter.1 hm;exact⟨h,m1,rfl,(zl5 HSRT.out h).1 m2⟩
    ·rintro⟨h,m1,e,m2⟩;exact⟨h,List.mem_filter.2 ⟨m1,(zl5 HSRT.out h).2 m2⟩,e⟩,by have:=zl7 (fun _=>false) pl;have:=HQN.out;omega⟩ HOK.out HSRT.out HFRM.out hB hg HXW.out HI.out.leC (by omega) (by omega) HR.out)
   clear HJ;rename ∀ a w,Code.wp _ (Code.block 4 _) _ a w→_=>hk7
   have HK7:=hd_ hk7;clear hk7;go_wp2_with fail;exact HK7.out _ _ (HT.out _ (by kernel_rfl) _ _ _ _ _ _ _ _ _ _ _ _ _ _ _ _ _ _ _ _ _ _ _ _ _ _ _ _ _ _ _ _ _ _ _ _ _ _ _ _ _ _ _ _ _ _ _ _ _ _ _ _ _ _ _ _ _ _ _ _ _ _ _ _ _ _ _ _ _ _ _ _ _ _ _ _ _ _ _ _ _ _ _ _ _ _ _ _ _ _ _ _ _ _ _ _ _ _ _ _ _ _ _ _ _ _ _ _ _ _ _ _ _ _ _ _ _ _ _ _ _ _ _ _)
theorem zkp.grownMap {w w':World}{B U b bS:Nat}{f:ByteArray→List Nat}(h:zkp w B U b f)(hg:w.grownBy w' (some bS))(hne:bS≠b)(hm:∃ es c,w.heap[bS]? = some (.map es c)):zkp w' B U b f:=by
 obtain⟨g,h1,h2,h3,h4,h5⟩:=h;obtain⟨es,cc,hm⟩:=hm;refine⟨g,h1.grown hg (fun e=>hne (by injection e with e;exact e.symm)),fun k=>(h2 k).kept hg ?_,h3,h4,h5⟩
 by_cases hb:(zkk g k).ownBlock=some bS
 ·exact absurd hm (fun hm=>zkn (h2 k) hb hm)
 ·exact .inr hb
theorem zl8 (hs:List Hav)(pl:List Syn)(Ah Ap:Option Addr)(ch g c B:Nat)(X:World)(hAp:0<pl.length→Ap=some ⟨g,0,none⟩)(hH:z4b X (.slice Ah hs.length ch) hs)(hO:zjv X B (.slice Ap pl.length c) pl)(hOk:zf0 hs)(hsrt:z6c pl)(hfrm:∀ x∈pl,x.frm=zk4 hs x.path)
  (hB:B≤g) (hg:g<X.heap.size) (hn:pl.length≤1000) (hhn:hs.length≤10000):
  Calls Tryz.prog 38 #[.slice Ah hs.length ch,.slice Ap pl.length c] X fun e w'=>e=.returned (.tuple #[])∧zjv w' B (.slice Ap pl.length c) (zeg (blB hs pl) pl)∧Below B X w':=by
 have HO:=hd_ hO;have HH:=hd_ hH;have HOK:=hd_ hOk;have HSRT:=hd_ hsrt;have HFRM:=hd_ hfrm;have hmm:=@run_makeMap Tryz.prog;have HI0:Hid (Bk1 X ((X.alloc (.map #[] 0)).alloc (.map #[] 0)) X.heap.size (X.heap.size+1) (stF pl 0) (zkq pl 0)):=hd_ (by
  refine⟨((Below.refl _ _).alloc (Nat.le_refl _) _).alloc (by simp) _,(z2f.new Value.string natV X).alloc _,?_,by omega,by omega⟩
  have:=zkp.new (X.alloc (.map #[] 0)) X.heap.size;have e:(X.alloc (.map #[] 0)).heap.size=X.heap.size+1:=by simp
  rw[e] at this;exact this.upTo (by simp))
 clear hO hH hOk hsrt hfrm;go_enter Tryz.func38,Tryz.ntmps38;go_upto_region 2 with fail;clear hmm;try simp only[World.size_alloc]
 generalize (X.alloc (.map #[] 0)).alloc (.map #[] 0)=W0 at HI0 ⊢;go_wp2_with fail;go_loopw [20] (fun i wr=>∃ k:Nat,i=.int .i64 k∧k≤pl.length∧Hid (Bk1 X wr X.heap.size (X.heap.size+1) (stF pl k) (zkq pl k))) (fun i _=>pl.length - (intOf i).toNat)
 case atStart=>exact⟨0,rfl,Nat.zero_le _,HI0⟩
 case round =>
  obtain⟨k,rfl,hk,HJ⟩:=hrel;clear HI0;by_cases hlt:k<pl.length
  ·have HLT:=hd_ hlt;obtain rfl:=hAp (by omega)
   obtain⟨⟨y0,y1,y2,y3,y4⟩,-⟩:=zjv.cell (z0n HO.out HJ.out.low) hlt;have HSF:=hd_ (zku hlt);have HCN:=hd_ (comF_no hlt);have HCY:=hd_ (zkr hlt);generalize pl[k]=x at y0 y1 y2 y3 y4 HSF HCN HCY;have hA:Below wr.heap.size wr (wr.alloc (.cells #[.int .i64 x.kind,.string x.path,.int .i64 x.num,.string x.frm,.string x.dst] 48)):=(Below.refl _ _).alloc (Nat.le_refl _) _;have hJ1:=HJ.out.under hA;obtain⟨w3,hup,hM3,hg3,hs3⟩:=z2f.update (w:=wr.alloc (.cells #[.int .i64 x.kind,.string x.path,.int .i64 x.num,.string x.frm,.string x.dst] 48)) hJ1.st (z2d Tryz.underlying9) Tryz.underlying122 x.path k;have hup2:(Instr.mapUpdate 122 (.map (some X.heap.size)) (.string x.path) (.int .i64 k)).run Tryz.prog (wr.alloc (.cells #[.int .i64 x.kind,.string x.path,.int .i64 x.num,.string x.frm,.string x.dst] 48))=.ok () w3:=hup;have HX3:Hid (Blk w3 wr.heap.size 48 [.int .i64 x.kind,.string x.path,.int .i64 x.num,.string x.frm,.string x.dst]):=hd_ ((z0l wr [.int .i64 x.kind,.string x.path,.int .i64 x.num,.string x.frm,.string x.dst] 48).grown hg3 (fun e=>by injection e with e;have:=HJ.out.st.lt;omega))
   have HJ3:Hid (Bk1 X w3 X.heap.size (X.heap.size+1) (stF pl (k+1)) (zkq pl k)):=hd_
    ⟨hJ1.low.grown hg3 hJ1.low.size (fun y e=>by injection e with e;omega),by rw[HSF.out];exact hM3,by rw[hs3];exact hJ1.com.grownMap hg3 hJ1.ne (zko hJ1.st),hJ1.ne,hJ1.leC⟩
   have HSZ:=hd_ HJ3.out.low.size;have hxb:=z0l wr [.int .i64 x.kind,.string x.path,.int .i64 x.num,.string x.frm,.string x.dst] 48;obtain⟨z0,z1,z2,z3,z4⟩:=z3r (x:=x) hxb;have hls:(zkq pl k x.dst).length≤1000000:=Nat.le_trans (zks _ _ _) (by omega)
   have HLS:=hd_ hls;clear hA hJ1 hup hM3 hg3 hs3 hxb hls HJ;go_upto_region 6 with fail;clear hup2 y0 y1 y2 y3 y4 z0 z1 z2 z3 z4;generalize wr.heap.size=g7 at HX3 ⊢;obtain⟨z0,z1,z2,z3,z4⟩:=z3r (x:=x) HX3.out;by_cases hd:x.dst=z2l
   ·obtain⟨s1,s2⟩:=z3v hd;have HN:Hid (Bk1 X w3 X.heap.size (X.heap.size+1) (stF pl (k+1)) (zkq pl (k+1))):=hd_ (by rw[HCN.out hd];exact HJ3.out)
    clear hd;go_wp2_with fail;go_roundw
    case rel=>exact⟨k+1,by go_num,by have:=HLT.out;omega,HN⟩
    case measure=>have:=HLT.out;simp [intOf];omega
   ·obtain⟨s1,s2⟩:=z3w hd;have HCF:=hd_ (HCY.out hd);clear hd;go_upto_region 7 with fail;refine bkR7 _ (by kernel_rfl) _ X w3 g7 X.heap.size (X.heap.size+1) (stF pl (k+1)) (zkq pl k) x k HJ3.out HX3.out HLS.out HSZ.out _ _ _ _ _ _ _ _ _ _ _ _ _ _ _ _ _ _ _ _ _ _ _ _ _ _ _ _ _ _ _ _ _ _ _ _ _ _ _ _ _ _ _ _ _ _ _ _ _ _ _ _ _ _ _ _ _ _ _ _ _ _ _ _ _ _ _ _ _ _ _ _ _ _ _ _ _ _ _ _ _ _ _ _ _ _ _ _ _ _ _ _ _ _ _ _ _ _ _ _ _ _ _ _ _ _ _ _ _ _ _ _ _ _ _ _ _ _ _ _ _ _ _ _ ?_
    intro eJ eK eL eM eN eO eP eQ eR eS w4 HN;rw[← HCF.out] at HN;go_wp2_with fail;go_roundw
    case rel=>exact⟨k+1,by go_num,by have:=HLT.out;omega,HN⟩
    case measure=>have:=HLT.out;simp [intOf];omega
  ·have hke:k=pl.length:=by omega
   subst hke;have HT:=hd_ (fun(T:Code) hT=>bkT9 T hT (fun e w'=>e=.returned (.tuple #[])∧zjv w' B (.slice Ap pl.length c) (zeg (blB hs pl) pl)∧Below B X w') X wr B g c X.heap.size (X.heap.size+1) hs pl Ah Ap ch hAp HJ.out (z0n HO.out HJ.out.low) (HJ.out.low.mono (by omega)) (Row.below HH.out HJ.out.low) HOK.out HSRT.out HFRM.out hB hg hn hhn (fun w' h1 h2=>⟨rfl,h1,h2⟩))
   clear HJ;rename ∀ a w,Code.wp _ (Code.seq (Code.region 9 _ _) _) _ a w→_=>hk7
   have HK7:=hd_ hk7;clear hk7;go_wp2_with fail;exact HK7.out _ _ (HT.out _ (by kernel_rfl) _ _ _ _ _ _ _ _ _ _ _ _ _ _ _ _ _ _ _ _ _ _ _ _ _ _ _ _ _ _ _ _ _ _ _ _ _ _ _ _ _ _ _ _ _ _ _ _ _ _ _ _ _ _ _ _ _ _ _ _ _ _ _ _ _ _ _ _ _ _ _ _ _ _ _ _ _ _ _ _ _ _ _ _ _ _ _ _ _ _ _ _ _ _ _ _ _ _ _ _ _ _ _ _ _ _ _ _ _ _ _ _ _ _ _ _ _ _ _ _ _ _ _)
end Go.Proofs.YtegeboijhifmcaaGreatDoor
