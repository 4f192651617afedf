/- known(): history.Append at its change. -/
import Derived.Test.YtegeboijhifmcaaGreatDoorMgw35
import Derived.Test.YtegeboijhifmcaaGreatDoorMgw16
import Derived.Test.YtegeboijhifmcaaGreatDoorMgw6
import Derived.Test.YtegeboijhifmcaaGreatDoorMgw15
import Derived.Test.YtegeboijhifmcaaGreatDoorMgw20
import Derived.Test.YtegeboijhifmcaaGreatDoorMgw18
import Derived.Test.YtegeboijhifmcaaGreatDoorMgw29
import Derived.Test.YtegeboijhifmcaaGreatDoorMgw27
import Derived.Test.YtegeboijhifmcaaGreatDoorMgw37
import Derived.Test.YtegeboijhifmcaaGreatDoorMgw31
import Derived.Test.YtegeboijhifmcaaGreatDoorMgw33
import Derived.Test.YtegeboijhifmcaaGreatDoorMgw26
import Derived.Test.YtegeboijhifmcaaGreatDoorMgw21
import Derived.Test.YtegeboijhifmcaaGreatDoorMgw22
namespace Go.Proofs.YtegeboijhifmcaaGreatDoor
set_option linter.unusedVariables false
set_option linter.unusedSimpArgs false
set_option maxHeartbeats 8000000
set_option maxRecDepth 100000
open Go.RowKit
theorem knR13 (ops:Array Oper)(hops:Tryz.f43.body.bind (zci 13)=some ops)(Q:Exit→Act→World→Prop)(g g10 ge n:Nat)(p:ByteArray)(v1 v2:Value)(xs:List Value)(V V1:World)
  (hR:WaR V V1 g10 v1 v2 n xs) (hB:Blk V1 ge 90 [.string p,.int .i64 1,.int .i64 1,.bool false,.bool false,.bool false,.int .u64 1,.int .i64 1,.int .i64 0,.string ⟨#[]⟩,.int .i64 0,.int .i64 0]) (hn:n≤100000)
  (hrev:∀ X,Below V1.heap.size V1 X→Calls Tryz.prog 76 #[.pointer (some ⟨g,0,none⟩),.agg #[.string p,.int .i64 1,.int .i64 1,.bool false,.bool false,.bool false,.int .u64 1,.int .i64 1,.int .i64 0,.string ⟨#[]⟩,.int .i64 0,.int .i64 0]] X fun e w'=>e=.returned (.agg #[.string p,.int .i64 1,.int .i64 1,.int .i64 1,.int .i64 1,.bool false,.bool false,.bool false,.int .u64 1,.int .i64 1,.string ⟨#[]⟩,.int .i64 0])∧Below X.heap.size X w')
  (u0 u1 u2 u3 u4 u5 u7 u8 u9 gt gx gy gz gA gC gD gE gF gG gH gI gJ gK gL gM gN gO gP gQ gR gT gV gW gX gY gZ i6 i7 i8 ia ib ic ie ig ii ij ik il im io ip iq ir iu iv iw ix:Value)
  (hQ:∀(eY eZ fa fd fe ff fg fh:Value) (v3:Value) (w':World),Hid (WaR V w' g10 v3 v2 (n+1) (xs++[.string p,.int .i64 1,.int .i64 1,.int .i64 1,.int .i64 1,.bool false,.bool false,.bool false,.int .u64 1,.int .i64 1,.string ⟨#[]⟩,.int .i64 0]))→Q .normal ⟨#[u0,u1,u2,u3,u4,u5,.pointer (some ⟨g,0,none⟩),u7,u8,u9,.pointer (some ⟨g10,0,none⟩),gt,.pointer (some ⟨ge,0,none⟩),gx,gy,gz,gA,gC,gD,gE,gF,gG,gH,gI,gJ,gK,gL,gM,gN,gO,gP,gQ,gR,gT,gV,gW,gX,gY,gZ,i6,i7,i8,ia,ib,ic,ie,ig,eY,eZ,fa,fd,fe,ff,fg,fh,ir,iu,iv,iw,ix],[]⟩ w'):
  (Code.region 13 ops true).wp Tryz.prog Q ⟨#[u0,u1,u2,u3,u4,u5,.pointer (some ⟨g,0,none⟩),u7,u8,u9,.pointer (some ⟨g10,0,none⟩),gt,.pointer (some ⟨ge,0,none⟩),gx,gy,gz,gA,gC,gD,gE,gF,gG,gH,gI,gJ,gK,gL,gM,gN,gO,gP,gQ,gR,gT,gV,gW,gX,gY,gZ,i6,i7,i8,ia,ib,ic,ie,ig,ii,ij,ik,il,im,io,ip,iq,ir,iu,iv,iw,ix],[]⟩ V1:=by
 simp only[Tryz.f43,Option.bind_some,zci] at hops
 simp at hops
 subst hops;obtain⟨A1,c1,hv1⟩:=z0o hR.one;subst hv1;have HQ:=hd_ hQ;have HR:=hd_ hR;have HRV2:=hd_ hrev;have f0:V1.cell? ⟨g10,0,none⟩=some (.slice A1 n c1):=hR.box.cell 0;obtain⟨c0,c1',c2,c3,c4,c5,c6,c7,c8,c9,c10,c11⟩:=z7z hB;clear hQ hR hB hrev;refine wp_region_noPanic ?_;go_region_law (first
  | (refine zce rfl rfl zgt (z0n (z0n HR.out.one hS5) ((Below.refl _ _).alloc (Nat.le_refl _) _)) (by simp [Act.eval,Act.put]) (z0i w5 [.string p,.int .i64 1,.int .i64 1,.int .i64 1,.int .i64 1,.bool false,.bool false,.bool false,.int .u64 1,.int .i64 1,.string ⟨#[]⟩,.int .i64 0] _ 12 1 rfl (by decide) _ rfl) (by simp [Act.eval,Act.put]) (by simp [Value.oneCell']) (by omega) (by unfold maxLen;omega) (by have:=hS5.size;have:=HR.out.bel.size;simp;omega) ?_;intro A6 c6' w6 hO6 hG6 hw6;have hbx:=(HR.out.box.below (z0r hS5 ((Below.refl _ _).alloc (Nat.le_refl _) _)) HR.out.box.lt).grown hG6 (fun e=>HR.out.ne1 e.symm);obtain⟨b0,b1,g0,g1⟩:=box2 hbx)
  | (go_simp;go_at_call 76;refine (HRV2.out _ (Below.refl _ _).drew).mono ?_;rintro e w5 ⟨rfl,hX5⟩;have hS5:Below V1.heap.size V1 w5:=(Below.refl _ _).drew.trans hX5;have f5:w5.cell? ⟨g10,0,none⟩=some (.slice A1 n c1):=(HR.out.box.below hS5 HR.out.box.lt).cell 0;have f6:(w5.alloc (.cells #[.string p,.int .i64 1,.int .i64 1,.int .i64 1,.int .i64 1,.bool false,.bool false,.bool false,.int .u64 1,.int .i64 1,.string ⟨#[]⟩,.int .i64 0] 66)).cell? ⟨g10,0,none⟩=some (.slice A1 n c1):=(HR.out.box.below (hS5.alloc hS5.size _) HR.out.box.lt).cell 0)
  | fail)
 all_goals exact NoPanic.normal (HQ.out _ _ _ _ _ _ _ _ _ _ (HR.out.push (z0r hS5 ((Below.refl _ _).alloc (Nat.le_refl _) _)) hO6 hG6 hw6))
theorem knR9 (ops:Array Oper)(hops:Tryz.f43.body.bind (zci 9)=some ops)(Q:Exit→Act→World→Prop)(gd gc:Nat)(ev:Value)(V:World)
  (hD:Blk V gd 26 [.slice none 0 0,.slice none 0 0]) (hC:Blk V gc 95 [.int .i64 1,.string ⟨#[]⟩,.string ⟨#[]⟩,ev,.slice none 0 0])
  (u0 u1 u4 u5 u6 u7 u8 u9 gn gt gu gx gy gz gA gC gD gE gF gG gH gI gJ gK gL gM gN gO gP gQ gR gT gV gW gX gY gZ i6 i7 i8 ia ib ic ie ig ii ij ik il im io ip iq ir iu iv iw ix:Value)
  (hQ:∀(eH eI eJ eK eL eM eN eO eP eQ:Value) (g10:Nat) (v2:Value) (w':World),Hid (WaR V w' g10 (.slice none 0 0) v2 0 []∧∃ A c,v2=.slice A 0 c)→Q .normal ⟨#[u0,u1,.pointer (some ⟨gd,0,none⟩),.pointer (some ⟨gc,0,none⟩),u4,u5,u6,u7,u8,u9,.pointer (some ⟨g10,0,none⟩),gt,gu,gx,gy,gz,gA,gC,gD,gE,gF,gG,gH,gI,gJ,gK,gL,gM,gN,gO,eH,eI,eJ,eK,eL,eM,eN,eO,eP,eQ,i7,i8,ia,ib,ic,ie,ig,ii,ij,ik,il,im,io,ip,iq,ir,iu,iv,iw,ix],[]⟩ w'):
  (Code.region 9 ops true).wp Tryz.prog Q ⟨#[u0,u1,.pointer (some ⟨gd,0,none⟩),.pointer (some ⟨gc,0,none⟩),u4,u5,u6,u7,u8,u9,gn,gt,gu,gx,gy,gz,gA,gC,gD,gE,gF,gG,gH,gI,gJ,gK,gL,gM,gN,gO,gP,gQ,gR,gT,gV,gW,gX,gY,gZ,i6,i7,i8,ia,ib,ic,ie,ig,ii,ij,ik,il,im,io,ip,iq,ir,iu,iv,iw,ix],[]⟩ V:=by
 simp only[Tryz.f43,Option.bind_some,zci] at hops
 simp at hops
 subst hops;have HQ:=hd_ hQ;have HC:Hid (∀ X,Below V.heap.size V X→X.cell? ⟨gd,0,none⟩=some (.slice none 0 0)∧X.cell? ⟨gd,1,none⟩=some (.slice none 0 0)∧X.cell? ⟨gc,4,none⟩=some (.slice none 0 0)):=hd_ fun X hX=>⟨(hD.below hX hD.lt).cell 0,(hD.below hX hD.lt).cell 1,(hC.below hX hC.lt).cell 4⟩;obtain⟨x0,x1,x2⟩:=HC.out V (Below.refl _ _);clear hQ hD hC;go_region_held3 (fun w'=>Below V.heap.size V w'∧w'.cell? ⟨gd,0,none⟩=some (.slice none 0 0)∧w'.cell? ⟨gd,1,none⟩=some (.slice none 0 0)∧w'.cell? ⟨gc,4,none⟩=some (.slice none 0 0))
  ((refine z3n ?_ (HC.out _);repeat (first | with_reducible assumption | with_reducible exact Below.refl _ _ | with_reducible refine Below.drew ?_ | with_reducible refine zcf ?_ _ | refine Below.setCell ?_ (by first | exact hS6.size | exact hle | (have:=hS6.size;simp;omega) | (simp;done)) _)))
  (first
   | (go_at_call 74;refine (knClone _).mono ?_;rintro e w5 ⟨rfl,rfl⟩)
   | (go_at_call 75;refine (zii _ _ (by first | exact z0l _ _ _ | exact Blk.drew' (z0l _ _ _) | exact Blk.alloc (z0l _ _ _) _ | exact Blk.alloc (Blk.drew' (z0l _ _ _)) _ | exact Blk.drew' (Blk.alloc (z0l _ _ _) _) | exact zch (by simp) | exact Blk.drew' (zch (by simp)))).mono ?_;rintro e w6 ⟨A6,c6,rfl,hX6⟩;have hS6:Below V.heap.size V w6:=(by repeat (first | exact Below.refl _ _ | refine Below.drew ?_ | refine zcf ?_ _):Below V.heap.size V _).trans (hX6.mono (by simp;try omega));(first | (have hblk:=Blk.below (g:=V.heap.size) (e:=26) (cs:=[.slice none 0 0,.slice none 0 0]) (by first | exact z0l V _ _ | exact Blk.drew' (z0l V _ _) | exact Blk.alloc (z0l V _ _) _ | exact Blk.alloc (Blk.drew' (z0l V _ _)) _ | exact Blk.drew' (Blk.alloc (z0l V _ _) _)) hX6 (by simp;try omega);have hle:V.heap.size≤V.heap.size:=Nat.le_refl _;obtain⟨r0,r1,f0,f1⟩:=box2 hblk) | (have hblk:=Blk.below (g:=V.heap.size+1) (e:=26) (cs:=[.slice none 0 0,.slice none 0 0]) (by first | exact zch (by simp) | exact Blk.drew' (zch (by simp))) hX6 (by simp;try omega);have hle:V.heap.size≤V.heap.size+1:=Nat.le_succ _;obtain⟨r0,r1,f0,f1⟩:=box2 hblk) | skip)))
 all_goals first
  | exact HQ.out _ _ _ _ _ _ _ _ _ _ _ _ _ ⟨⟨hS6.alloc hS6.size _,hS6.size,z0l w6 _ _,World.ownsRow_nil _ _ _ _,(fun e=>by cases e)⟩,A6,c6,rfl⟩
  | exact HQ.out _ _ _ _ _ _ _ _ _ _ _ _ _ ⟨⟨(hS6.setCell hle _).setCell hle _,hle,(hblk.set_ 0 _).set_ 1 _,World.ownsRow_nil _ _ _ _,(fun e=>by cases e)⟩,A6,c6,rfl⟩
theorem znk (ex:Bool)(l r:Pat)(s:ByteArray)(A B:Option Addr)(a b:Nat)(w:World)(he:Env w)(hs:s.size≤1000000)(hl:za9 w (.slice A l.parts.length a) l)(hr:za9 w (.slice B r.parts.length b) r)(h1:z7e l=0)(h2:z7e r=0)(h3:za2 l=za2 r)(h4:l.rest=r.rest)(hf:∀ caps,z8e l s=some caps→zbv r caps)
  (hF:∀ X caps cv,Below w.heap.size w X→Strs X cv caps→zbv r caps→Calls Tryz.prog 226 #[.agg #[.slice B r.parts.length b,.bool r.rest],cv] X fun e w'=>e=.returned (.tuple #[.string (zbu r caps),.int .i64 0])∧Below X.heap.size X w'):
  Calls Tryz.prog 188 #[.agg #[.bool ex,.slice A l.parts.length a,.bool l.rest,.slice B r.parts.length b,.bool r.rest],.string s] w (zc3 w (zc2 l r s)):=by
 have hB:=z0l w [.bool ex,.slice A l.parts.length a,.bool l.rest,.slice B r.parts.length b,.bool r.rest] 119;have hA:Below w.heap.size w (w.alloc (.cells #[.bool ex,.slice A l.parts.length a,.bool l.rest,.slice B r.parts.length b,.bool r.rest] 119)):=(Below.refl _ _).alloc (Nat.le_refl _) _;have HC:=hd_ (fun X (hX:Below w.heap.size w X)=>znj ex l r A B a b X (hl.below hX) (hr.below hX) h1 h2 h3 h4);have HM:=hd_ (fun X (hX:Below w.heap.size w X)=>zcd l s A a X (he.below hX) hs (hl.below hX).1 hl.small);have HFI:=hd_ hF;have HF:=hd_ hf;have HR:Hid (zc2 l r s=(z8e l s).map (zbu r)):=hd_ rfl;clear he hl hr hf hF h1 h2 h3 h4;generalize zc2 l r s=o at HR ⊢;go_enter Tryz.func188,Tryz.ntmps188;go_upto_region 1 with fail;generalize w.alloc (.cells #[.bool ex,.slice A l.parts.length a,.bool l.rest,.slice B r.parts.length b,.bool r.rest] 119)=W1 at hA hB ⊢;obtain⟨d0,d1,d2,d3,d4⟩:=(⟨hB.cell 0,hB.cell 1,hB.cell 2,hB.cell 3,hB.cell 4⟩:W1.cell? ⟨w.heap.size,0,none⟩=some (.bool ex)∧W1.cell? ⟨w.heap.size,1,none⟩=some (.slice A l.parts.length a)∧W1.cell? ⟨w.heap.size,2,none⟩=some (.bool l.rest)∧W1.cell? ⟨w.heap.size,3,none⟩=some (.slice B r.parts.length b)∧W1.cell? ⟨w.heap.size,4,none⟩=some (.bool r.rest));have HB:=hd_ hB;have HA:=hd_ hA;have HC1:=hd_ (HC.out W1 hA);clear hA hB HC;go_wp2_with fail;refine HC1.out.mono ?_;rintro e w2 ⟨rfl,hb⟩;dsimp only;have HX2:=hd_ (HB.out.below hb HB.out.lt);have HB2:=hd_ (z0r HA.out hb);have HM2:=hd_ (HM.out w2 HB2.out);clear hb d0 d1 d2 d3 d4 HC1 HM HB;obtain⟨d1,d2⟩:=(⟨HX2.out.cell 1,HX2.out.cell 2⟩:w2.cell? ⟨w.heap.size,1,none⟩=some (.slice A l.parts.length a)∧w2.cell? ⟨w.heap.size,2,none⟩=some (.bool l.rest));go_wp2_with fail;refine HM2.out.mono ?_;rintro e w3 ⟨A3,n3,c3,rfl,hb,hm⟩;dsimp only;have HB3:=hd_ (z0r HB2.out hb);have HX3:=hd_ (HX2.out.below hb HX2.out.lt);clear hb d1 d2 HM2 HX2;cases hq:z8e l s with
 | none =>
  rw[hq] at HR;have HR2:Hid (o=none):=hd_ HR.out;clear hm hq HR;go_wp2_with fail;go_ret2;exact⟨by rw[HR2.out];rfl,HB3.out⟩
 | some caps =>
  rw[hq] at HR;have HR2:Hid (o=some (zbu r caps)):=hd_ HR.out;obtain⟨-,hst⟩:=hm caps hq;have HCA:=hd_ (HFI.out w3 caps _ HB3.out hst (HF.out caps hq));clear hm hq HR hst HFI HF;obtain⟨d3,d4⟩:=(⟨HX3.out.cell 3,HX3.out.cell 4⟩:w3.cell? ⟨w.heap.size,3,none⟩=some (.slice B r.parts.length b)∧w3.cell? ⟨w.heap.size,4,none⟩=some (.bool r.rest));go_wp2_with fail;refine HCA.out.mono ?_;rintro e w4 ⟨rfl,hb⟩;dsimp only;have HB4:=hd_ (z0r HB3.out hb);clear hb d3 d4 HCA;go_wp2_with fail;go_ret2;exact⟨by rw[HR2.out];rfl,HB4.out⟩
def zo3 (b:Pat)(hs:List zd1)(p:ByteArray):Bool:=(z8e b p).isSome && !zdp hs p
theorem zo4 (b:Pat)(hs:List zd1)(A H:Option Addr)(a hc:Nat)(p:ByteArray)(w:World)(he:Env w)(hb:za9 w (.slice A b.parts.length a) b)(hh:zd2 w (.slice H hs.length hc) hs)(hz:p.size≤1000000)(hn:hs.length≤1000):
  Calls Tryz.prog 187 #[.agg #[.slice A b.parts.length a,.bool b.rest,.slice H hs.length hc],.string p] w fun e w'=>e=.returned (.bool (zo3 b hs p))∧Below w.heap.size w w':=by
 have hB:=z0l w [.slice A b.parts.length a,.bool b.rest,.slice H hs.length hc] 115;have hA:Below w.heap.size w (w.alloc (.cells #[.slice A b.parts.length a,.bool b.rest,.slice H hs.length hc] 115)):=(Below.refl _ _).alloc (Nat.le_refl _) _;have HM:=hd_ (fun X (hX:Below w.heap.size w X)=>zcd b p A a X (he.below hX) hz (hb.below hX).1 hb.small);have HMQ:=hd_ (fun(q:Pat) (Q:Option Addr) (c:Nat) X (hX:Below w.heap.size w X) (hq:za9 X (.slice Q q.parts.length c) q)=>zcd q p Q c X (he.below hX) hz hq.1 hq.small);have HNO:Hid (∀ k (hk:k<hs.length),(z8e hs[k].1 p).isSome=true→zdp hs p=true):=hd_ (fun k hk h=>List.any_eq_true.2 ⟨_,List.getElem_mem hk,h⟩);have HYE:Hid ((∀ k (hk:k<hs.length),(z8e hs[k].1 p).isSome=false)→zdp hs p=false):=hd_ (fun h=>by
  unfold zdp;rw[List.any_eq_false];intro q hq;obtain⟨k,hk,rfl⟩:=List.getElem_of_mem hq;rw[h k hk];decide)
 have HHB:Hid (zo3 b hs p=((z8e b p).isSome && !zdp hs p)):=hd_ rfl;generalize zdp hs p=r at HNO HYE HHB;have HH:=hd_ hh;clear he hb hh;go_enter Tryz.func187,Tryz.ntmps187;go_upto_region 1 with fail;generalize w.alloc (.cells #[.slice A b.parts.length a,.bool b.rest,.slice H hs.length hc] 115)=W1 at hA hB ⊢;obtain⟨d0,d1⟩:=(⟨hB.cell 0,hB.cell 1⟩:W1.cell? ⟨w.heap.size,0,none⟩=some (.slice A b.parts.length a)∧W1.cell? ⟨w.heap.size,1,none⟩=some (.bool b.rest));have HB:=hd_ hB;have HA:=hd_ hA;have HC1:=hd_ (HM.out W1 hA);clear hA hB HM;go_wp2_with fail;refine HC1.out.mono ?_;rintro e w2 ⟨A',n,c',rfl,hb2,-⟩;dsimp only;have HB2:=hd_ (z0r HA.out hb2);have HX2:=hd_ (HB.out.below hb2 HB.out.lt);clear hb2 d0 d1 HC1;generalize (z8e b p).isSome=o at HHB ⊢;cases o with
 | false =>
  have HF:Hid (zo3 b hs p=false):=hd_ (by rw[HHB.out];rfl)
  go_wp2_with fail;go_ret;exact⟨z0w HF.out.symm,HB2.out⟩
 | true =>
  have HF:Hid (zo3 b hs p=!r):=hd_ (by rw[HHB.out];rfl)
  have d2:w2.cell? ⟨w.heap.size,2,none⟩=some (.slice H hs.length hc):=HX2.out.cell 2;go_wp2_with fail;clear d2;go_loopw [23] (fun i wr=>∃ k:Nat,i=.int .i64 k∧k≤hs.length∧Hid ((∀ j (hj:j<hs.length),j<k→(z8e hs[j].1 p).isSome=false)∧Below w2.heap.size w2 wr)) (fun i _=>hs.length - (intOf i).toNat)
  case atStart=>exact⟨0,rfl,Nat.zero_le _,hd_ ⟨fun j _ h=>by omega,Below.refl _ _⟩⟩
  case round =>
   obtain⟨k,rfl,hk,HI⟩:=hrel;by_cases hlt:k<hs.length
   ·have HHX:=hd_ (HH.out.below (z0r HB2.out HI.out.2));obtain⟨ad,rfl,hab,s0,s1⟩:=HHX.out.at_ hlt;have HPK:=hd_ (HHX.out.2 hs[k] (List.getElem_mem hlt));have HY:=hd_ (HNO.out k hlt);have HN:Hid ((z8e hs[k].1 p).isSome=false→∀ j (hj:j<hs.length),j<k+1→(z8e hs[j].1 p).isSome=false):=hd_ (fun h j hj hjk=>by
     by_cases e:j=k
     ·subst e;exact h
     ·exact HI.out.1 j hj (by omega))
    have HBI:=hd_ HI.out.2;have HLT:=hd_ hlt;generalize hs[k]=q at s0 s1 HPK HY HN;obtain⟨q,Aq,cq⟩:=q;change wr.cell? _=some (.slice Aq q.parts.length cq) at s0;change wr.cell? _=some (.bool q.rest) at s1;have hX:Below wr.heap.size wr (wr.alloc (.cells #[.slice Aq q.parts.length cq,.bool q.rest] 97)):=(Below.refl _ _).alloc (Nat.le_refl _) _;have HBX:=hd_ (z0r HBI.out hX);have HCQ:=hd_ (HMQ.out q Aq cq _ (z0r HB2.out HBX.out) (HPK.out.below hX));clear hab hX HI;dsimp only at HY HN
    go_wp2_with fail;refine HCQ.out.mono ?_;rintro e w4 ⟨A4,n4,c4,rfl,hb4,-⟩;dsimp only;have HB4:=hd_ (z0r HBX.out hb4);clear hb4 s0 s1;generalize (z8e q p).isSome=oq at HY HN ⊢;cases oq with
    | false =>
     have HN2:=hd_ (HN.out rfl);go_wp2_with fail;go_roundw
     case rel=>exact⟨k+1,by go_num,by have:=HLT.out;omega,hd_ ⟨HN2.out,HB4.out⟩⟩
     case measure=>have:=HLT.out;simp [intOf];omega
    | true =>
     have HR:=hd_ (HY.out rfl);have HB5:=hd_ (z0r HB2.out HB4.out);go_wp2_with fail;go_ret;exact⟨z0w (by rw[HF.out,HR.out];rfl),HB5.out⟩
   ·have hke:k=hs.length:=by omega
    have HR:=hd_ (HYE.out (fun j hj=>HI.out.1 j hj (by omega)))
    have HB5:=hd_ (z0r HB2.out HI.out.2);clear HI;subst hke;go_wp2_with fail;go_ret;exact⟨z0w (by rw[HF.out,HR.out];rfl),HB5.out⟩
theorem rBy_ok (es:List zd8)(v:Value)(p:ByteArray)(w:World)(he:Env w)(hE:zdi w v es)(hl32:es.length≤32)(hz:p.size≤1000000)
  (hF:∀ x∈es,∀ X,Below w.heap.size w X→Calls Tryz.prog 188 #[.agg #[.bool false,x.l.v,.bool x.l.1.rest,x.r.v,.bool x.r.1.rest],.string p] X (zc3 X (zc2 x.l.1 x.r.1 p))):
  Calls Tryz.prog 140 #[v,.string p] w (zc3 w (zdt es p)):=by
 obtain⟨A,c,rfl,-⟩:=id hE.1;have HE:=hd_ (fun X (hX:Below w.heap.size w X)=>hE.below hX);have HEV:=hd_ (fun X (hX:Below w.heap.size w X)=>he.below hX);have HF:=hd_ hF;have HAT:=hd_ (fun k hk=>@zdv es p k hk);have HNO:=hd_ (@zdw es p);generalize zdt es p=r at HAT HNO ⊢;clear hE he hF;go_enter Tryz.func140,Tryz.ntmps140;go_wp2_with fail;go_loopw [10] (fun i wr=>∃ k:Nat,i=.int .i64 k∧k≤es.length∧Hid (Below w.heap.size w wr∧∀ j (hj:j<es.length),j<k→zds es[j] p=none)) (fun i _=>es.length - (intOf i).toNat)
 case atStart=>exact⟨0,rfl,Nat.zero_le _,hd_ ⟨Below.refl _ _,fun j _ h=>by omega⟩⟩
 case round =>
  obtain⟨k,rfl,hk,HI⟩:=hrel;by_cases hlt:k<es.length
  ·have HBW:=hd_ HI.out.1;have HEX:=hd_ (HE.out wr HBW.out);obtain⟨ad,rfl,hab,s0,s1,s2,s3,s4⟩:=HEX.out.at_ hlt;have HXI:=hd_ (HEX.out.2 es[k] (List.getElem_mem hlt));have HXF:=hd_ (HF.out es[k] (List.getElem_mem hlt));have HR1:=hd_ (HAT.out k hlt HI.out.2);have HJ:Hid (zds es[k] p=none→∀ j (hj:j<es.length),j<k+1→zds es[j] p=none):=hd_ (fun h j hj hjk=>by
    by_cases e:j=k
    ·subst e;exact h
    ·exact HI.out.2 j hj (by omega))
   generalize es[k]=x at s0 s1 s2 s3 s4 HXI HXF HR1 HJ;obtain⟨H,hc,hhv⟩:=HXI.out.holes;obtain⟨⟨pl,Al,cl⟩,⟨pr,Ar,cr⟩,hv,hs⟩:=x;change hv=.slice H hs.length hc at hhv;subst hhv;change wr.cell? _=some (.slice Al pl.parts.length cl) at s0;change wr.cell? _=some (.bool pl.rest) at s1;change wr.cell? _=some (.slice Ar pr.parts.length cr) at s2;change wr.cell? _=some (.bool pr.rest) at s3;change wr.cell? _=some (.slice H hs.length hc) at s4;have hX:Below wr.heap.size wr (wr.alloc (.cells #[.slice Al pl.parts.length cl,.bool pl.rest,.slice Ar pr.parts.length cr,.bool pr.rest,.slice H hs.length hc] 100)):=(Below.refl _ _).alloc (Nat.le_refl _) _;have HXP:=hd_ (HXI.out.below hX);have HX:=hd_ (z0r HBW.out hX);have HN:Hid (Blk (wr.alloc (.cells #[.slice Al pl.parts.length cl,.bool pl.rest,.slice Ar pr.parts.length cr,.bool pr.rest,.slice H hs.length hc] 100)) wr.heap.size 100 [.slice Al pl.parts.length cl,.bool pl.rest,.slice Ar pr.parts.length cr,.bool pr.rest,.slice H hs.length hc]):=hd_ (z0l wr _ _);have HLT:=hd_ hlt;clear hab hX;go_upto_region 4 with fail;generalize wr.alloc (.cells #[.slice Al pl.parts.length cl,.bool pl.rest,.slice Ar pr.parts.length cr,.bool pr.rest,.slice H hs.length hc] 100)=W4 at HX HN HXP ⊢;generalize wr.heap.size=g7 at HN ⊢;clear s0 s1 s2 s3 s4;obtain⟨x0,x1,x4⟩:=(⟨HN.out.cell 0,HN.out.cell 1,HN.out.cell 4⟩:W4.cell? ⟨g7,0,none⟩=some (.slice Al pl.parts.length cl)∧W4.cell? ⟨g7,1,none⟩=some (.bool pl.rest)∧W4.cell? ⟨g7,4,none⟩=some (.slice H hs.length hc));have HHA:=hd_ (zo4 pl hs Al H cl hc p W4 (HEV.out W4 HX.out) HXP.out.l HXP.out.h hz HXP.out.n);have HONE:Hid (zds ⟨(pl,Al,cl),(pr,Ar,cr),.slice H hs.length hc,hs⟩ p=if zo3 pl hs p then zc2 pl pr p else none):=hd_ (by
    unfold zds zo3 zc2;cases z8e pl p <;> cases zdp hs p <;> simp)
   have HSM:Hid (zo3 pl hs p=true→(zc2 pl pr p).isSome=true):=hd_ (by
    unfold zo3 zc2;cases z8e pl p <;> simp)
   generalize zo3 pl hs p=o at HHA HONE HSM;generalize zc2 pl pr p=q at HXF HONE HSM;go_wp2_with fail;refine HHA.out.mono ?_;rintro e w5 ⟨rfl,hb⟩;dsimp only;have HB:=hd_ (z0r HX.out hb);have HN5:=hd_ (HN.out.below hb HN.out.lt);clear hb x0 x1 x4 HHA HN;cases o with
   | false =>
    have HNX:=hd_ (HJ.out HONE.out);go_wp2_with fail;go_roundw
    case rel=>exact⟨k+1,by go_num,by omega,hd_ ⟨HB.out,HNX.out⟩⟩
    case measure=>simp [intOf];omega
   | true =>
    have HRR:Hid (r=q):=hd_ (by
     have h1:=HR1.out;rw[HONE.out] at h1;rw[h1];have h2:=HSM.out rfl;cases q with
     | none=>cases h2
     | some s=>rfl)
    have HFW:=hd_ (HXF.out w5 HB.out);obtain⟨x0,x1,x2,x3⟩:=(⟨HN5.out.cell 0,HN5.out.cell 1,HN5.out.cell 2,HN5.out.cell 3⟩:w5.cell? ⟨g7,0,none⟩=some (.slice Al pl.parts.length cl)∧w5.cell? ⟨g7,1,none⟩=some (.bool pl.rest)∧w5.cell? ⟨g7,2,none⟩=some (.slice Ar pr.parts.length cr)∧w5.cell? ⟨g7,3,none⟩=some (.bool pr.rest));go_wp2_with fail;refine HFW.out.mono ?_;rintro e w6 ⟨rfl,hb⟩;dsimp only;have HB6:=hd_ (z0r HB.out hb);clear hb x0 x1 x2 x3;go_wp2_with fail;go_ret2;exact⟨by rw[HRR.out];rfl,HB6.out⟩
  ·have hke:k=es.length:=by omega
   subst hke;have HR:=hd_ (HNO.out (fun j hj=>HI.out.2 j hj hj));have HB:=hd_ HI.out.1;have hge:¬((es.length:Int)<(es.length:Int)):=by omega
   go_wp2_with fail;go_ret2;exact⟨by rw[HR.out];rfl,HB.out⟩
theorem zo5 (es:List zd8)(v:Value)(p:ByteArray)(w:World)(he:Env w)(hE:zdi w v es)(hl32:es.length≤32)(hz:p.size≤1000000)
  (hC:Calls Tryz.prog 93 #[v] w fun e w'=>e=.returned (.tuple #[.int .i64 0,.int .i64 0])∧Below w.heap.size w w')
  (hF:∀ x∈es,∀ X,Below w.heap.size w X→Calls Tryz.prog 188 #[.agg #[.bool false,x.l.v,.bool x.l.1.rest,x.r.v,.bool x.r.1.rest],.string p] X (zc3 X (zc2 x.l.1 x.r.1 p))):
  Calls Tryz.prog 95 #[v,.string p] w (zc3 w (zdt es p)):=by
 obtain⟨A,c,rfl,-⟩:=id hE.1;have HC:=hd_ hC;have HB:=hd_ (fun X (hX:Below w.heap.size w X)=>rBy_ok es _ p X (he.below hX) (hE.below hX) hl32 hz (fun x hx Y hY=>hF x hx Y (z0r hX hY)));generalize zdt es p=o at HB ⊢;clear he hE hC hF;go_enter Tryz.func95,Tryz.ntmps95;go_upto_region 1 with fail;go_wp2_with fail;refine HC.out.mono ?_;rintro e w2 ⟨rfl,hb⟩;dsimp only;have HB2:=hd_ hb;have HY:=hd_ (HB.out w2 hb);clear hb HC HB;go_wp2_with fail;refine HY.out.mono ?_;rintro e w3 ⟨rfl,hb⟩;dsimp only;have HB3:=hd_ (z0r HB2.out hb);clear hb HY;go_wp2_with fail;go_ret2;exact⟨rfl,HB3.out⟩
theorem zo6 (w:World)(A:Option Addr)(c:Nat)(es:List zd8)(P:Ending→World→Prop)(hE:zdi w (.slice A es.length c) es)(hl:es.length≤32)
  (hK:∀ x∈es,∀ X,Below w.heap.size w X→Calls Tryz.prog 134 #[.agg #[.bool false,x.l.v,.bool x.l.1.rest,x.r.v,.bool x.r.1.rest]] X fun e w'=>e=.returned (.int .i64 0)∧Below X.heap.size X w')
  (hG:∀ x∈es,∀ X,Below w.heap.size w X→Calls Tryz.prog 136 #[.agg #[x.l.v,.bool x.l.1.rest,x.hv]] X fun e w'=>e=.returned (.int .i64 0)∧Below X.heap.size X w')
  (hR:∀ x∈es,∀ X,Below w.heap.size w X→Calls Tryz.prog 138 #[x.val] X (zo0 X x.r.v x.r.1.rest))
  (hT16:∀ T',Tryz.f93.body.bind (zhv 16)=some T'→∀ W',Below w.heap.size w W'→∀(u1 u2 u3 u4 u5 u6 u7 u8 u9 gn gt gu gx gy gz gA gC gD gE gF gG gH gI gJ gK gL gM gN gO gP gQ gR gT gV gW gX gY gZ i6 i7 i8 ia ib ic ie ig ii ij ik il im io ip iq ir iu iv iw ix iy iz iA iB iC iD iE iF iG iH iI iJ iK iL iM iN iO iP iQ iR iS iT iU iV iW iX iY iZ j0 j1 j2 j5:Value),T'.wp Tryz.prog (bodyPost Tryz.prog Tryz.f93 P) ⟨#[.slice A es.length c,u1,u2,u3,u4,u5,u6,u7,u8,u9,gn,gt,gu,gx,gy,gz,gA,gC,gD,gE,gF,gG,gH,gI,gJ,gK,gL,gM,gN,gO,gP,gQ,gR,gT,gV,gW,gX,gY,gZ,i6,i7,i8,ia,ib,ic,ie,ig,ii,ij,ik,il,im,io,ip,iq,ir,iu,iv,iw,ix,iy,iz,iA,iB,iC,iD,iE,iF,iG,iH,iI,iJ,iK,iL,iM,iN,iO,iP,iQ,iR,iS,iT,iU,iV,iW,iX,iY,iZ,j0,j1,j2,j5],[]⟩ W'):
  Calls Tryz.prog 93 #[.slice A es.length c] w P:=by
 have HE:=hd_ (fun X (hX:Below w.heap.size w X)=>hE.below hX);have HR:=hd_ hR;have HK:=hd_ hK;have HG:=hd_ hG;have HT:=hd_ hT16;clear hE hR hT16 hK hG;go_enter Tryz.func93,Tryz.ntmps93;go_wp2_with fail;go_loopw [20] (fun i wr=>∃ k:Nat,i=.int .i64 k∧k≤es.length∧Hid (Below w.heap.size w wr)) (fun i _=>es.length - (intOf i).toNat)
 case atStart=>exact⟨0,rfl,Nat.zero_le _,hd_ (Below.refl _ _)⟩
 case round =>
  obtain⟨k,rfl,hk,HI⟩:=hrel;by_cases hlt:k<es.length
  ·have HEX:=hd_ (HE.out wr HI.out);obtain⟨ad,rfl,hab,s0,s1,s2,s3,s4⟩:=HEX.out.at_ hlt;have HXI:=hd_ (HEX.out.2 es[k] (List.getElem_mem hlt));have HXK:=hd_ (HK.out es[k] (List.getElem_mem hlt));have HXG:=hd_ (HG.out es[k] (List.getElem_mem hlt));generalize es[k]=x at s0 s1 s2 s3 s4 HXI HXK HXG;obtain⟨H,hc,hhv⟩:=HXI.out.holes;obtain⟨⟨pl,Al,cl⟩,⟨pr,Ar,cr⟩,hv,hs⟩:=x;change hv=.slice H hs.length hc at hhv;subst hhv;change wr.cell? _=some (.slice Al pl.parts.length cl) at s0;change wr.cell? _=some (.bool pl.rest) at s1;change wr.cell? _=some (.slice Ar pr.parts.length cr) at s2;change wr.cell? _=some (.bool pr.rest) at s3;change wr.cell? _=some (.slice H hs.length hc) at s4;have hX:Below wr.heap.size wr (wr.alloc (.cells #[.slice Al pl.parts.length cl,.bool pl.rest,.slice Ar pr.parts.length cr,.bool pr.rest,.slice H hs.length hc] 100)):=(Below.refl _ _).alloc (Nat.le_refl _) _;have HX:=hd_ (z0r HI.out hX);have HN:Hid (Blk (wr.alloc (.cells #[.slice Al pl.parts.length cl,.bool pl.rest,.slice Ar pr.parts.length cr,.bool pr.rest,.slice H hs.length hc] 100)) wr.heap.size 100 [.slice Al pl.parts.length cl,.bool pl.rest,.slice Ar pr.parts.length cr,.bool pr.rest,.slice H hs.length hc]):=hd_ (z0l wr _ _);clear hab hX;go_upto_region 4 with fail;generalize wr.alloc (.cells #[.slice Al pl.parts.length cl,.bool pl.rest,.slice Ar pr.parts.length cr,.bool pr.rest,.slice H hs.length hc] 100)=W4 at HX HN ⊢;generalize wr.heap.size=g7 at HN ⊢;clear s0 s1 s2 s3 s4;obtain⟨x0,x1,x2,x3,x4⟩:=(⟨HN.out.cell 0,HN.out.cell 1,HN.out.cell 2,HN.out.cell 3,HN.out.cell 4⟩:W4.cell? ⟨g7,0,none⟩=some (.slice Al pl.parts.length cl)∧W4.cell? ⟨g7,1,none⟩=some (.bool pl.rest)∧W4.cell? ⟨g7,2,none⟩=some (.slice Ar pr.parts.length cr)∧W4.cell? ⟨g7,3,none⟩=some (.bool pr.rest)∧W4.cell? ⟨g7,4,none⟩=some (.slice H hs.length hc));have HLI:=hd_ (znu Al Ar pl.parts.length pr.parts.length cl cr pl.rest pr.rest (.slice H hs.length hc) W4);go_wp2_with fail;refine HLI.out.mono ?_;rintro e w5 ⟨rfl,hb5⟩;dsimp only;have HB5:=hd_ (z0r HX.out hb5)
   have HN5:=hd_ (HN.out.below hb5 HN.out.lt);have HC5:Hid (Calls Tryz.prog 134 #[.agg #[.bool false,.slice Al pl.parts.length cl,.bool pl.rest,.slice Ar pr.parts.length cr,.bool pr.rest]] w5 fun e w'=>e=.returned (.int .i64 0)∧Below w5.heap.size w5 w'):=hd_ (HXK.out w5 HB5.out);clear hb5 x0 x1 x2 x3 x4 HLI;go_wp2_with fail;refine HC5.out.mono ?_;rintro e w6 ⟨rfl,hb6⟩;dsimp only;have HB6:=hd_ (z0r HB5.out hb6);have HN6:=hd_ (HN5.out.below hb6 HN5.out.lt);clear hb6 HC5;obtain⟨x0,x1,x2,x3,x4⟩:=(⟨HN6.out.cell 0,HN6.out.cell 1,HN6.out.cell 2,HN6.out.cell 3,HN6.out.cell 4⟩:w6.cell? ⟨g7,0,none⟩=some (.slice Al pl.parts.length cl)∧w6.cell? ⟨g7,1,none⟩=some (.bool pl.rest)∧w6.cell? ⟨g7,2,none⟩=some (.slice Ar pr.parts.length cr)∧w6.cell? ⟨g7,3,none⟩=some (.bool pr.rest)∧w6.cell? ⟨g7,4,none⟩=some (.slice H hs.length hc));have HLE:=hd_ (znv Al H pl.parts.length cl hs.length hc pl.rest pr.rest (.slice Ar pr.parts.length cr) w6);go_wp2_with fail;refine HLE.out.mono ?_;rintro e w7 ⟨rfl,hb7⟩;dsimp only;have HB7:=hd_ (z0r HB6.out hb7);have HC7:Hid (Calls Tryz.prog 136 #[.agg #[.slice Al pl.parts.length cl,.bool pl.rest,.slice H hs.length hc]] w7 fun e w'=>e=.returned (.int .i64 0)∧Below w7.heap.size w7 w'):=hd_ (HXG.out w7 HB7.out);clear hb7 x0 x1 x2 x3 x4 HLE;go_wp2_with fail;refine HC7.out.mono ?_;rintro e w8 ⟨rfl,hb8⟩;dsimp only;have HB8:=hd_ (z0r HB7.out hb8);clear hb8 HC7;go_wp2_with fail;go_roundw
   case rel=>exact⟨k+1,by go_num,by omega,HB8⟩
   case measure=>simp [intOf];omega
  ·have hke:k=es.length:=by omega
   subst hke;have HB:=hd_ HI.out;have hge:¬((es.length:Int)<(es.length:Int)):=by omega
   have h32:¬((32:Int)<(es.length:Int)):=by omega
   have HT9:=hd_ (fun(T:Code) hT=>rcT9 T hT P wr A c es (HE.out wr HB.out) hl (fun x hx X hX=>HR.out x hx X (z0r HB.out hX)) (fun T' hT' W' hW'=>HT.out T' hT' W' (z0r HB.out hW')));clear HI;go_upto_region 7 with fail;rename ∀ a w,Code.wp _ (Code.seq (Code.seq (Code.region 9 _ _) _) _) _ a w→_=>hk7
   have HK7:=hd_ hk7;clear hk7;go_wp2_with fail;exact HK7.out _ _ (HT9.out _ (by kernel_rfl) _ _ _ _ _ _ _ _ _ _ _ _ _ _ _ _ _ _ _ _ _ _ _ _ _ _ _ _ _ _ _ _ _ _ _ _ _ _ _ _ _ _ _ _ _ _ _ _ _ _ _ _ _ _ _ _ _ _ _ _ _ _ _ _ _ _ _ _ _ _ _ _ _ _ _ _ _ _ _ _ _ _ _ _ _ _ _ _ _ _ _)
open Go.Sort (grow)
theorem rcR24 (ops:Array Oper)(hops:Tryz.f93.body.bind (zci 24)=some ops)(Q:Exit→Act→World→Prop)(V:World)(g11 g12 g15 g16:Nat)(p q r s:Pat)(A B C D H1 H2 H3 H4:Option Addr)(a b c d n1 n2 n3 n4 c1 c2 c3 c4:Nat)
  (h11:Blk V g11 100 [.slice A p.parts.length a,.bool p.rest,.slice C r.parts.length c,.bool r.rest,.slice H1 n1 c1])
  (h15:Blk V g15 100 [.slice B q.parts.length b,.bool q.rest,.slice D s.parts.length d,.bool s.rest,.slice H2 n2 c2])
  (h12:Blk V g12 115 [.slice C r.parts.length c,.bool r.rest,.slice H3 n3 c3])
  (h16:Blk V g16 115 [.slice D s.parts.length d,.bool s.rest,.slice H4 n4 c4])
  (hp:za9 V (.slice A p.parts.length a) p) (hq:za9 V (.slice B q.parts.length b) q) (hr:za9 V (.slice C r.parts.length c) r) (hs:za9 V (.slice D s.parts.length d) s)
  (hm1:zai p q=none) (hm2:zai r s=none) (hs1:znr p q) (hs2:znr r s)
  (u0 u1 u2 u3 u4 u5 u6 u7 u8 u9 gn gx gy gC gD gE gF gG gH gI gJ gK gL gM gN gO gP gQ gR gT gV gW gX gY gZ i6 i7 i8 ia ib ic ie ig ii ij ik il im io ip iq ir iu iv iw ix iy iz iA iB iC iD iE iF iG iH iI iJ iK iL iM iN iO iP iQ iR iS iT iU iV iW iX iY iZ j0 j1 j2 j5:Value)
  (hQ:∀(fN fO fP fQ fR fS fT fU fV:Value) (w':World),Below V.heap.size V w'→Q .normal ⟨#[u0,u1,u2,u3,u4,u5,u6,u7,u8,u9,gn,.pointer (some ⟨g11,0,none⟩),.pointer (some ⟨g12,0,none⟩),gx,gy,.pointer (some ⟨g15,0,none⟩),.pointer (some ⟨g16,0,none⟩),gC,gD,gE,gF,gG,gH,gI,gJ,gK,gL,gM,gN,gO,gP,gQ,gR,gT,gV,gW,gX,gY,gZ,i6,i7,i8,ia,ib,ic,ie,ig,ii,ij,ik,il,im,io,ip,iq,ir,iu,iv,iw,ix,iy,iz,iA,iB,iC,iD,iE,iF,iG,iH,iI,iJ,iK,iL,iM,iN,iO,iP,iQ,fN,fO,fP,fQ,fR,fS,fT,fU,fV,.bool false,j1,j2,j5],[]⟩ w'):
  (Code.region 24 ops true).wp Tryz.prog Q ⟨#[u0,u1,u2,u3,u4,u5,u6,u7,u8,u9,gn,.pointer (some ⟨g11,0,none⟩),.pointer (some ⟨g12,0,none⟩),gx,gy,.pointer (some ⟨g15,0,none⟩),.pointer (some ⟨g16,0,none⟩),gC,gD,gE,gF,gG,gH,gI,gJ,gK,gL,gM,gN,gO,gP,gQ,gR,gT,gV,gW,gX,gY,gZ,i6,i7,i8,ia,ib,ic,ie,ig,ii,ij,ik,il,im,io,ip,iq,ir,iu,iv,iw,ix,iy,iz,iA,iB,iC,iD,iE,iF,iG,iH,iI,iJ,iK,iL,iM,iN,iO,iP,iQ,iR,iS,iT,iU,iV,iW,iX,iY,iZ,j0,j1,j2,j5],[]⟩ V:=by
 simp only[Tryz.f93,Option.bind_some,zci] at hops
 simp at hops
 subst hops;have HQ:=hd_ hQ;have bR:∀ d os,Below V.heap.size V (grow (redrawn V d) os):=fun d os=>below_regrown V d os;have cL1:∀ d os,Calls Tryz.prog 137 #[.agg #[.slice A p.parts.length a,.bool p.rest,.slice C r.parts.length c,.bool r.rest,.slice H1 n1 c1]] (grow (redrawn V d) os) fun e w''=>e=.returned (.agg #[.slice A p.parts.length a,.bool p.rest,.slice H1 n1 c1])∧∃ p:Regrown,w''=grow (redrawn V p.d) p.os:=fun d os=>Calls.regrown_of (znv A H1 p.parts.length a n1 c1 p.rest r.rest _ _);have cL2:∀ d' os,Calls Tryz.prog 137 #[.agg #[.slice B q.parts.length b,.bool q.rest,.slice D s.parts.length d,.bool s.rest,.slice H2 n2 c2]] (grow (redrawn V d') os) fun e w''=>e=.returned (.agg #[.slice B q.parts.length b,.bool q.rest,.slice H2 n2 c2])∧∃ p:Regrown,w''=grow (redrawn V p.d) p.os:=fun d' os=>Calls.regrown_of (znv B H2 q.parts.length b n2 c2 q.rest s.rest _ _);have cC1:∀ d' os,Calls Tryz.prog 139 #[.agg #[.slice A p.parts.length a,.bool p.rest,.slice H1 n1 c1],.agg #[.slice B q.parts.length b,.bool q.rest,.slice H2 n2 c2]] (grow (redrawn V d') os) fun e w''=>e=.returned (.bool false)∧∃ p:Regrown,w''=grow (redrawn V p.d) p.os:=fun d' os=>Calls.regrown_of (zo7 p q A B a b _ _ _ (hp.below (bR d' os)) (hq.below (bR d' os)) hm1 hs1);have cC2:∀ d' os,Calls Tryz.prog 139 #[.agg #[.slice C r.parts.length c,.bool r.rest,.slice H3 n3 c3],.agg #[.slice D s.parts.length d,.bool s.rest,.slice H4 n4 c4]] (grow (redrawn V d') os) fun e w''=>e=.returned (.bool false)∧∃ p:Regrown,w''=grow (redrawn V p.d) p.os:=fun d' os=>Calls.regrown_of (zo7 r s C D c d _ _ _ (hr.below (bR d' os)) (hs.below (bR d' os)) hm2 hs2);have x0:=cell_regrown (h11.cell 0);have x1:=cell_regrown (h11.cell 1);have x2:=cell_regrown (h11.cell 2);have x3:=cell_regrown (h11.cell 3);have x4:=cell_regrown (h11.cell 4);have y0:=cell_regrown (h15.cell 0);have y1:=cell_regrown (h15.cell 1);have y2:=cell_regrown (h15.cell 2);have y3:=cell_regrown (h15.cell 3);have y4:=cell_regrown (h15.cell 4);have u0:=cell_regrown (h12.cell 0)
 have u1:=cell_regrown (h12.cell 1);have u2:=cell_regrown (h12.cell 2);have v0:=cell_regrown (h16.cell 0);have v1:=cell_regrown (h16.cell 1);have v2:=cell_regrown (h16.cell 2);clear hQ h11 h12 h15 h16 hp hq hr hs hm1 hm2 hs1 hs2 bR;refine wp_region_quiet_below (by kernel_rfl) (by kernel_rfl) ?_
 iterate 2 (first | go_big_quiet_step (exact cL1 _ _) | quiet_step (exact cL1 _ _))
 iterate 2 (first | go_big_quiet_step (exact cL2 _ _) | quiet_step (exact cL2 _ _))
 iterate 2 (first | go_big_quiet_step (exact cC1 _ _) | quiet_step (exact cC1 _ _))
 repeat (first | go_big_quiet_step (exact cC2 _ _) | quiet_step (exact cC2 _ _))
 refine wpQuiet_nil ?_;intro _ hw9;obtain⟨⟨dq,osq⟩,hw9⟩:=hw9;subst hw9;exact HQ.out _ _ _ _ _ _ _ _ _ _ (below_regrown V dq osq)
theorem rcT16 (T:Code)(hT:Tryz.f93.body.bind (zhv 16)=some T)(P:Ending→World→Prop)(W:World)(A:Option Addr)(c:Nat)(es:List zd8)(hE:zdi W (.slice A es.length c) es)(hl:es.length≤32)
  (hap:∀(i j:Nat) (hi:i<es.length) (hj:j<i),(zai es[i].l.1 (es[j]'(Nat.lt_trans hj hi)).l.1=none∧zai es[i].r.1 (es[j]'(Nat.lt_trans hj hi)).r.1=none)∧znr es[i].l.1 (es[j]'(Nat.lt_trans hj hi)).l.1∧znr es[i].r.1 (es[j]'(Nat.lt_trans hj hi)).r.1)
  (hR:∀ x∈es,∀ X,Below W.heap.size W X→Calls Tryz.prog 138 #[x.val] X (zo0 X x.r.v x.r.1.rest))
  (hP:∀ w',Below W.heap.size W w'→P (.returned (.tuple #[.int .i64 0,.int .i64 0])) w')
  (u1 u2 u3 u4 u5 u6 u7 u8 u9 gn gt gu gx gy gz gA gC gD gE gF gG gH gI gJ gK gL gM gN gO gP gQ gR gT gV gW gX gY gZ i6 i7 i8 ia ib ic ie ig ii ij ik il im io ip iq ir iu iv iw ix iy iz iA iB iC iD iE iF iG iH iI iJ iK iL iM iN iO iP iQ iR iS iT iU iV iW iX iY iZ j0 j1 j2 j5:Value):
  T.wp Tryz.prog (bodyPost Tryz.prog Tryz.f93 P) ⟨#[.slice A es.length c,u1,u2,u3,u4,u5,u6,u7,u8,u9,gn,gt,gu,gx,gy,gz,gA,gC,gD,gE,gF,gG,gH,gI,gJ,gK,gL,gM,gN,gO,gP,gQ,gR,gT,gV,gW,gX,gY,gZ,i6,i7,i8,ia,ib,ic,ie,ig,ii,ij,ik,il,im,io,ip,iq,ir,iu,iv,iw,ix,iy,iz,iA,iB,iC,iD,iE,iF,iG,iH,iI,iJ,iK,iL,iM,iN,iO,iP,iQ,iR,iS,iT,iU,iV,iW,iX,iY,iZ,j0,j1,j2,j5],[]⟩ W:=by
 simp only[Tryz.f93,Option.bind_some,zhv,zhu] at hT
 simp at hT
 subst hT;have HE:=hd_ (fun X (hX:Below W.heap.size W X)=>hE.below hX);have HR:=hd_ hR;have HAP:=hd_ hap;have HP:=hd_ hP;have hcc:es.length≤c:=by obtain⟨A',c',e,h1,-⟩:=id hE.1;injection e with e1 e2 e3;omega
 clear hE hR hap hP;go_wp2_with fail;go_loopw [56] (fun i wr=>∃ k:Nat,i=.int .i64 k∧k≤es.length∧Hid (Below W.heap.size W wr)) (fun i _=>es.length - (intOf i).toNat)
 case atStart=>exact⟨0,rfl,Nat.zero_le _,hd_ (Below.refl _ _)⟩
 case round =>
  obtain⟨k,rfl,hk,HI⟩:=hrel;by_cases hlt:k<es.length
  ·have HEX:=hd_ (HE.out wr HI.out);obtain⟨ad,rfl,hab,s0,s1,s2,s3,s4⟩:=HEX.out.at_ hlt;have HXI:=hd_ (HEX.out.2 es[k] (List.getElem_mem hlt));have HXR:=hd_ (HR.out es[k] (List.getElem_mem hlt));have HAK:=hd_ (fun j (hj:j<k)=>HAP.out k j hlt hj);generalize es[k]=x at s0 s1 s2 s3 s4 HXI HXR HAK;obtain⟨H,hc,hhv⟩:=HXI.out.holes;obtain⟨⟨pl,Al,cl⟩,⟨pr,Ar,cr⟩,hv,hs⟩:=x;change hv=.slice H hs.length hc at hhv;subst hhv;change wr.cell? _=some (.slice Al pl.parts.length cl) at s0;change wr.cell? _=some (.bool pl.rest) at s1;change wr.cell? _=some (.slice Ar pr.parts.length cr) at s2;change wr.cell? _=some (.bool pr.rest) at s3;change wr.cell? _=some (.slice H hs.length hc) at s4;have hX:Below wr.heap.size wr (wr.alloc (.cells #[.slice Al pl.parts.length cl,.bool pl.rest,.slice Ar pr.parts.length cr,.bool pr.rest,.slice H hs.length hc] 100)):=(Below.refl _ _).alloc (Nat.le_refl _) _;have HX:=hd_ (z0r HI.out hX);have HN:Hid (Blk _ _ 100 [.slice Al pl.parts.length cl,.bool pl.rest,.slice Ar pr.parts.length cr,.bool pr.rest,.slice H hs.length hc]):=hd_ (z0l wr _ _);have HXP:=hd_ (HXI.out.below hX);have hpre:=fun X=>zdl (P:=Tryz.prog) (t:=27) (n:=es.length) (c:=c) (k:=k) (A:=some ad) Tryz.underlying27 zdm (by omega) X
   have HPR:=hd_ hpre;have HLT:=hd_ hlt;clear hab hX hpre;go_upto_region 19 with fail;generalize wr.alloc (.cells #[.slice Al pl.parts.length cl,.bool pl.rest,.slice Ar pr.parts.length cr,.bool pr.rest,.slice H hs.length hc] 100)=W4 at HX HN HXP ⊢;generalize wr.heap.size=g11 at HN ⊢;clear s0 s1 s2 s3 s4;obtain⟨x0,x1,x2,x3,x4⟩:=(⟨HN.out.cell 0,HN.out.cell 1,HN.out.cell 2,HN.out.cell 3,HN.out.cell 4⟩:W4.cell? ⟨g11,0,none⟩=some (.slice Al pl.parts.length cl)∧W4.cell? ⟨g11,1,none⟩=some (.bool pl.rest)∧W4.cell? ⟨g11,2,none⟩=some (.slice Ar pr.parts.length cr)∧W4.cell? ⟨g11,3,none⟩=some (.bool pr.rest)∧W4.cell? ⟨g11,4,none⟩=some (.slice H hs.length hc));have HRC:Hid (Calls Tryz.prog 138 #[.agg #[.slice Al pl.parts.length cl,.bool pl.rest,.slice Ar pr.parts.length cr,.bool pr.rest,.slice H hs.length hc]] W4 (zo0 W4 (.slice Ar pr.parts.length cr) pr.rest)):=hd_ (HXR.out W4 HX.out);go_wp2_with fail;refine HRC.out.mono ?_;rintro e w5 ⟨hb,H9,n9,c9,rfl⟩;dsimp only;have hX5:Below w5.heap.size w5 (w5.alloc (.cells #[.slice Ar pr.parts.length cr,.bool pr.rest,.slice H9 n9 c9] 115)):=(Below.refl _ _).alloc (Nat.le_refl _) _;have hb6:=z0r hb hX5;have HB6:=hd_ (z0r HX.out hb6);have HE6:=hd_ (HN.out.below hb6 HN.out.lt);have HX6:=hd_ (HXP.out.below hb6);have HG6:Hid (Blk _ _ 115 [.slice Ar pr.parts.length cr,.bool pr.rest,.slice H9 n9 c9]):=hd_ (z0l w5 _ _);clear hb hX5 hb6 x0 x1 x2 x3 x4 HRC HN HXP;go_upto_region 20 with fail;generalize w5.alloc (.cells #[.slice Ar pr.parts.length cr,.bool pr.rest,.slice H9 n9 c9] 115)=W6 at HB6 HE6 HX6 HG6 ⊢;generalize w5.heap.size=g12 at HG6 ⊢;have hpre:=HPR.out;go_wp2_with fail;clear hpre;go_loopw [70] (fun i wr=>∃ j:Nat,i=.int .i64 j∧j≤k∧Hid (Below W6.heap.size W6 wr)) (fun i _=>k - (intOf i).toNat)
   case atStart=>exact⟨0,rfl,Nat.zero_le _,hd_ (Below.refl _ _)⟩
   case round =>
    obtain⟨j,rfl,hj,HJ⟩:=hrel;by_cases hlj:j<k
    ·have hje:j<es.length:=by have:=HLT.out;omega
     have HEY:=hd_ (HE.out wr (z0r HB6.out HJ.out));obtain⟨ad2,had,hab,s0,s1,s2,s3,s4⟩:=HEY.out.at_ hje;injection had with had
     subst had;have HYI:=hd_ (HEY.out.2 es[j] (List.getElem_mem hje));have HYR:=hd_ (HR.out es[j] (List.getElem_mem hje));have HAJ:=hd_ (HAK.out j hlj);generalize es[j]=y at s0 s1 s2 s3 s4 HYI HYR HAJ;obtain⟨Hy,hcy,hhv⟩:=HYI.out.holes;obtain⟨⟨ql,Bl,dl⟩,⟨qr,Br,dr⟩,hv,hsy⟩:=y;change hv=.slice Hy hsy.length hcy at hhv;subst hhv;change wr.cell? _=some (.slice Bl ql.parts.length dl) at s0;change wr.cell? _=some (.bool ql.rest) at s1;change wr.cell? _=some (.slice Br qr.parts.length dr) at s2;change wr.cell? _=some (.bool qr.rest) at s3;change wr.cell? _=some (.slice Hy hsy.length hcy) at s4;have hX:Below wr.heap.size wr (wr.alloc (.cells #[.slice Bl ql.parts.length dl,.bool ql.rest,.slice Br qr.parts.length dr,.bool qr.rest,.slice Hy hsy.length hcy] 100)):=(Below.refl _ _).alloc (Nat.le_refl _) _;have HJ7:=hd_ (z0r HJ.out hX);have HN7:Hid (Blk _ _ 100 [.slice Bl ql.parts.length dl,.bool ql.rest,.slice Br qr.parts.length dr,.bool qr.rest,.slice Hy hsy.length hcy]):=hd_ (z0l wr _ _);have HYP:=hd_ (HYI.out.below hX);have HLJ:=hd_ hlj;clear hab hX;go_upto_region 23 with fail;generalize wr.alloc (.cells #[.slice Bl ql.parts.length dl,.bool ql.rest,.slice Br qr.parts.length dr,.bool qr.rest,.slice Hy hsy.length hcy] 100)=W7 at HJ7 HN7 HYP ⊢;generalize wr.heap.size=g15 at HN7 ⊢;clear s0 s1 s2 s3 s4;obtain⟨x0,x1,x2,x3,x4⟩:=(⟨HN7.out.cell 0,HN7.out.cell 1,HN7.out.cell 2,HN7.out.cell 3,HN7.out.cell 4⟩:W7.cell? ⟨g15,0,none⟩=some (.slice Bl ql.parts.length dl)∧W7.cell? ⟨g15,1,none⟩=some (.bool ql.rest)∧W7.cell? ⟨g15,2,none⟩=some (.slice Br qr.parts.length dr)∧W7.cell? ⟨g15,3,none⟩=some (.bool qr.rest)∧W7.cell? ⟨g15,4,none⟩=some (.slice Hy hsy.length hcy));have HRC:Hid (Calls Tryz.prog 138 #[.agg #[.slice Bl ql.parts.length dl,.bool ql.rest,.slice Br qr.parts.length dr,.bool qr.rest,.slice Hy hsy.length hcy]] W7 (zo0 W7 (.slice Br qr.parts.length dr) qr.rest)):=hd_ (HYR.out W7 (z0r HB6.out HJ7.out));go_wp2_with fail;refine HRC.out.mono ?_;rintro e w8 ⟨hb,H8,n8,c8,rfl⟩;dsimp only;have hX8:Below w8.heap.size w8 (w8.alloc (.cells #[.slice Br qr.parts.length dr,.bool qr.rest,.slice H8 n8 c8] 115)):=(Below.refl _ _).alloc (Nat.le_refl _) _
     have hb9:=z0r hb hX8;have HJ9:=hd_ (z0r HJ7.out hb9);have h15:=HN7.out.below hb9 HN7.out.lt;have hy9:=HYP.out.below hb9;have h16:Blk _ _ 115 [.slice Br qr.parts.length dr,.bool qr.rest,.slice H8 n8 c8]:=z0l w8 _ _;have HC9:=hd_ (And.intro h15 (And.intro hy9 h16));clear hb hX8 hb9 x0 x1 x2 x3 x4 HRC HN7 HYP h15 hy9 h16;go_upto_region 24 with fail;generalize w8.alloc (.cells #[.slice Br qr.parts.length dr,.bool qr.rest,.slice H8 n8 c8] 115)=W9 at HJ9 HC9 ⊢;generalize w8.heap.size=g16 at HC9 ⊢;have hx9:=HX6.out.below HJ9.out;refine rcR24 _ (by kernel_rfl) _ W9 g11 g12 g15 g16 pl ql pr qr Al Bl Ar Br H Hy H9 H8 cl dl cr dr hs.length hsy.length n9 n8 hc hcy c9 c8 (HE6.out.below HJ9.out HE6.out.lt) HC9.out.1 (HG6.out.below HJ9.out HG6.out.lt) HC9.out.2.2 hx9.l HC9.out.2.1.l hx9.r HC9.out.2.1.r HAJ.out.1.1 HAJ.out.1.2 HAJ.out.2.1 HAJ.out.2.2 _ _ _ _ _ _ _ _ _ _ _ _ _ _ _ _ _ _ _ _ _ _ _ _ _ _ _ _ _ _ _ _ _ _ _ _ _ _ _ _ _ _ _ _ _ _ _ _ _ _ _ _ _ _ _ _ _ _ _ _ _ _ _ _ _ _ _ _ _ _ _ _ _ _ _ _ _ _ _ _ _ _ _ _ _ _ _ _ ?_
     intro fN fO fP fQ fR fS fT fU fV w' hb';have HBN:=hd_ (z0r HJ9.out hb');clear hb' hx9;go_wp2_with fail;go_roundw
     case rel=>exact⟨j+1,by go_num,by have:=HLJ.out;omega,HBN⟩
     case measure=>have:=HLJ.out;simp [intOf];omega
    ·have hke:j=k:=by omega
     subst hke;have HBE:=hd_ (z0r HB6.out HJ.out);have hge:¬((j:Int)<(j:Int)):=by omega
     go_wp2_with fail;go_roundw
     case rel=>exact⟨j+1,by go_num,by have:=HLT.out;omega,HBE⟩
     case measure=>have:=HLT.out;simp [intOf];omega
  ·have hke:k=es.length:=by omega
   subst hke;have HB:=hd_ HI.out;have hge:¬((es.length:Int)<(es.length:Int)):=by omega
   go_wp2_with fail;exact HP.out _ HB.out
theorem zoe {l r:Pat}(h:za8 l r=0):z7e l=0∧z7e r=0∧za2 l=za2 r∧l.rest=r.rest:=by
 unfold za8 at h;by_cases h1:z7e l=0
 ·by_cases h2:z7e r=0
  ·by_cases h3:za2 l=za2 r∧l.rest=r.rest
   ·exact⟨h1,h2,h3⟩
   ·rw[if_neg (by simp [h1]),if_neg (by simp [h2]),if_pos (by
     by_cases h4:za2 l=za2 r
     ·exact .inr fun h5=>h3 ⟨h4,h5⟩
     ·exact .inl h4)] at h
    cases h
  ·rw[if_neg (by simp [h1]),if_pos h2] at h;cases h
 ·rw[if_pos h1] at h;cases h
def symB (p q:Pat):Bool:=(List.range (zah p q).parts.length).all fun k=>z9s (((zag p q).parts[k]?).getD z2l) (((zah p q).parts[k]?).getD z2l) || !z9s (((zah p q).parts[k]?).getD z2l) (((zag p q).parts[k]?).getD z2l)
theorem zof {p q:Pat}(h:symB p q=true):znr p q:=by
 unfold symB at h;intro k hx hy hw;have:=List.all_eq_true.1 h k (List.mem_range.2 hy);rw[List.getElem?_eq_getElem hx,List.getElem?_eq_getElem hy] at this;simp only[Option.getD_some] at this
 rw[hw] at this;simpa using this
def oneB (x:EntP):Bool:=match x.hs with
 | []=>true
 | [h]=>match zai x.l h with
  | none=>false
  | some m=>symB x.l h && symB x.r (zcv x.l x.r m)
 | _=>false
def refB (es:List EntP):Bool:=(es.all oneB) && (List.range es.length).all fun i=>(List.range i).all fun j=>match es[i]?,es[j]? with
 | some x,some y=>symB x.l y.l && symB x.r y.r
 | _,_=>false
theorem zog:∀ k<8,refB (zg3 k)=true:=by decide +kernel
structure zoh (es:List zd8):Prop where
 map:zdj es
 one:∀ x∈es,x.hs=[]∨∃ q m,x.hs=[q]∧zcw x.l.1 x.r.1 q.1 m∧znr x.l.1 q.1∧znr x.r.1 (zcv x.l.1 x.r.1 m)
 sym:∀(i j:Nat) (hi:i<es.length) (hj:j<i),znr es[i].l.1 (es[j]'(Nat.lt_trans hj hi)).l.1∧znr es[i].r.1 (es[j]'(Nat.lt_trans hj hi)).r.1
theorem zoi {es:List zd8}{k:Nat}(hk:k<8)(h:es.map zd8.pl=zg3 k):zoh es:=by
 have hM:=(zgb hk h).1.map;have hB:=zog k hk;rw[← h] at hB;unfold refB at hB;simp only[Bool.and_eq_true,List.all_eq_true,List.mem_range,List.length_map,List.mem_map,forall_exists_index,and_imp,forall_apply_eq_imp_iff₂] at hB
 obtain⟨h1,h2⟩:=hB;refine⟨hM,fun x hx=>?_,fun i j hi hj=>?_⟩
 ·have ho:=h1 x hx;have hn:=(hM.ok x hx).nar;obtain⟨xl,xr,hv,hs⟩:=x;match hs,ho,hn with
  | [],_,_=>exact .inl rfl
  | [q],ho,hn =>
   obtain⟨m,hm⟩:=hn q (List.mem_cons_self ..);refine .inr ⟨q,m,rfl,hm,?_⟩;unfold oneB zd8.pl at ho;simp only[List.map_cons,List.map_nil] at ho
   have e:zai xl.1 q.1=some m:=hm.meet;rw[e] at ho;simp only[Bool.and_eq_true] at ho
   exact⟨zof ho.1,zof ho.2⟩
  | _ :: _ :: _,ho,_=>exact absurd ho (by simp [oneB,zd8.pl])
 ·have:=h2 i hi j hj;rw[List.getElem?_map,List.getElem?_map,List.getElem?_eq_getElem hi,List.getElem?_eq_getElem (Nat.lt_trans hj hi)] at this;simp only[Option.map_some,Bool.and_eq_true] at this
  exact⟨zof this.1,zof this.2⟩
theorem zoj (es:List zd8)(v:Value)(w:World)(hE:zdi w v es)(hM:zoh es):
  Calls Tryz.prog 93 #[v] w fun e w'=>e=.returned (.tuple #[.int .i64 0,.int .i64 0])∧Below w.heap.size w w':=by
 obtain⟨A,c,rfl,-⟩:=id hE.1;have hR:∀ x∈es,∀ X,Below w.heap.size w X→Calls Tryz.prog 138 #[x.val] X (zo0 X x.r.v x.r.1.rest):=by
  intro x hx X hX;have hI:=(hE.2 x hx).below hX;have hO:=hM.one x hx;obtain⟨H,hc,hhv⟩:=hI.holes;obtain⟨⟨pl,Al,cl⟩,⟨pr,Ar,cr⟩,hv,hs⟩:=x;change hv=.slice H hs.length hc at hhv;subst hhv;rcases hO with ho | ⟨q,m,ho,hn,hs1,hs2⟩
  ·change hs=[] at ho;subst ho;exact zo1 Al Ar H pl.parts.length pr.parts.length cl cr hc pl.rest pr.rest X
  ·change hs=[q] at ho;subst ho;obtain⟨ad,rfl,hab,s0,s1⟩:=zd2.at_ (k:=0) hI.h (by simp)
   have hq:=hI.h.2 q (List.mem_cons_self ..);obtain⟨q,B,b⟩:=q;have hcc:1≤hc:=by
    obtain⟨A',c',e,h1,-⟩:=hI.h.1;injection e with e1 e2 e3
    subst e3;exact h1
   have e0:ad.add (0 * 2)=ad:=by unfold Addr.add;simp
   rw[e0] at s0 s1;exact zo2 pl pr q m Al B Ar cl b cr ad hc X hI.l hI.r hq hn hs1 hs2 rfl hcc s0 s1
 refine zo6 w A c es _ hE hM.map.len (fun x hx X hX=>?_) (fun x hx X hX=>?_) hR (fun T hT W hW=>rcT16 T hT _ W A c es (hE.below hW) hM.map.len (fun i j hi hj=>⟨hM.map.apart i j hi hj,hM.sym i j hi hj⟩) (fun x hx X hX=>hR x hx X (z0r hW hX)) (fun w' hb=>⟨rfl,z0r hW hb⟩))
 ·have hI:=(hE.2 x hx).below hX;obtain⟨h1,h2,h3,h4⟩:=zoe (hM.map.ok x hx).rule;obtain⟨⟨pl,Al,cl⟩,⟨pr,Ar,cr⟩,hv,hs⟩:=x;exact znj false pl pr Al Ar cl cr X hI.l hI.r h1 h2 h3 h4
 ·have hI:=(hE.2 x hx).below hX;have hg:=(hM.map.ok x hx).reg;obtain⟨H,hc,hhv⟩:=hI.holes;obtain⟨⟨pl,Al,cl⟩,⟨pr,Ar,cr⟩,hv,hs⟩:=x;change hv=.slice H hs.length hc at hhv;subst hhv;have:=znt pl hs Al H cl hc X hI.l hI.h (Nat.le_trans hI.n (by decide))
  rw[show zd3 pl hs=0 from hg] at this;exact this
theorem zok (es:List zd8)(v:Value)(p:ByteArray)(w:World)(he:Env w)(hE:zdi w v es)(hM:zoh es)(hF:zdu es p)(hz:p.size≤1000000):
  Calls Tryz.prog 95 #[v,.string p] w (zc3 w (zdt es p)):=by
 refine zo5 es v p w he hE hM.map.len hz (zoj es v w hE hM) fun x hx X hX=>?_;have hI:=(hE.2 x hx).below hX;obtain⟨h1,h2,h3,h4⟩:=zoe (hM.map.ok x hx).rule;have hf:=hF x hx;obtain⟨⟨pl,Al,cl⟩,⟨pr,Ar,cr⟩,hv,hs⟩:=x;exact znk false pl pr p Al Ar cl cr X (he.below hX) hz hI.l hI.r h1 h2 h3 h4 hf (fun Y caps cv hY hc hfo=>zod pr caps Ar cr cv Y ((he.below hX).below hY) (hI.r.below hY) hc hfo)
theorem zon {D:List Rev}{f:ByteArray→Option ByteArray}{m:Int}{p:ByteArray}{n:Nat}(h:zmr D n):
  (decide (0<(rAt D p m).num)=false→zfj D f m p=none)∧(decide (0<(rAt D p m).num)=true→(f p=none→zfj D f m p=none)∧(z2v (rAt D p m).act=false→zfj D f m p=none)∧∀ s,f p=some s→z2v (rAt D p m).act=true→zfj D f m p=some ⟨p,(rAt D p m).num,s⟩):=by
 obtain⟨h1,h2⟩:=dp_at h p m;unfold zfj;cases hg:z30 D p (fun v=>decide (v.chg≤m)) with
 | none =>
  rw[hg] at h2;refine⟨fun _=>rfl,fun h3=>?_⟩;rw[h3] at h2;cases h2
 | some r =>
  rw[hg] at h1 h2;have h1:r=rAt D p m:=h1;subst h1;refine⟨fun h3=>(by rw[h3] at h2;cases h2),fun _=>⟨fun e=>(by simp only;rw[e];split <;> rfl),fun e=>(by simp only;rw[if_neg (by rw[e];decide)]),fun s e1 e2=>(by simp only;rw[if_pos e2,e1];rfl)⟩⟩
def RwPost (w:World)(l:List Hav)(e:Ending)(w':World):Prop:=∃ v,e=.returned (.tuple #[v,.int .i64 0])∧w'.ownsRow w.heap.size 44 3 v l.length (l.flatMap Hav.cells)∧Below w.heap.size w w'
theorem zoo (D:List Rev)(n:Nat)(es:List zd8)(m:Int)(dv dr mv:Value)(w:World)(he:Env w)(hR:z45 w dv D)(hE:zdi w mv es)(hD:zmr D n)(hl:D.length≤1000)(hM:zoh es)(hS:zfs es)(hf:zfi (zdt es)):
  Calls Tryz.prog 60 #[.agg #[dv,dr],mv,.int .i64 m] w (RwPost w (zfk D (zdt es) m)):=by
 obtain⟨Ar,cr,rfl,-⟩:=id hR;have hBox:=z0l w [.slice Ar D.length cr,dr] 26;have hA:Below w.heap.size w (w.alloc (.cells #[.slice Ar D.length cr,dr] 26)):=(Below.refl _ _).alloc (Nat.le_refl _) _;have HCK:=hd_ (fun X (hX:Below w.heap.size w X)=>zoj es mv X (hE.below hX) hM);have HAT:=hd_ (fun X (hX:Below w.heap.size w X) p=>zh7 D p m (.slice Ar D.length cr) dr X (hR.below hX) (by omega))
 have HFW:=hd_ (fun X (hX:Below w.heap.size w X) p (hp:p∈zff)=>zok es mv p X (he.below hX) (hE.below hX) hM (hS.fits p hp) (zft p hp).2);have HEV:=hd_ (fun X (hX:Below w.heap.size w X)=>he.below hX);have HRV:=hd_ (fun X (hX:Below w.heap.size w X)=>hR.below hX);have HSM:=hd_ hS.small;have HDP:=hd_ hD;have HEND:=hd_ (fun out (h:zly D (zdt es) m D.length out)=>zm1 h (zmt hD) hf);have HA:=hd_ hA;have HBX:=hd_ hBox;generalize zfk D (zdt es) m=WL at HEND ⊢;clear he hR hE hS hM hD hf hA hBox;go_enter Tryz.func60,Tryz.ntmps60;go_upto_region 1 with fail;generalize w.alloc (.cells #[.slice Ar D.length cr,dr] 26)=W1 at HA HBX ⊢;have HC1:=hd_ (HCK.out W1 HA.out);go_wp2_with fail;refine HC1.out.mono ?_;rintro e w2 ⟨rfl,hb⟩;dsimp only;have HB2:=hd_ (z0r HA.out hb);have HBX2:=hd_ (HBX.out.below hb HBX.out.lt);clear hb HCK HC1;have d0:w2.cell? ⟨w.heap.size,0,none⟩=some (.slice Ar D.length cr):=HBX2.out.cell 0;go_wp2_with fail;go_loopw [10,11] (fun lv i wr=>∃(k:Nat) (out:List Hav) (A:Option Addr) (c:Nat),lv=.slice A out.length c∧i=.int .i64 k∧k≤D.length∧Hid (zly D (zdt es) m k out∧Below w2.heap.size w2 wr∧wr.ownsRow w2.heap.size 44 3 (.slice A out.length c) out.length (out.flatMap Hav.cells))) (fun _ i _=>D.length - (intOf i).toNat)
 case atStart=>exact⟨0,[],none,0,rfl,rfl,Nat.zero_le _,hd_ ⟨refW_0 _ _ _,Below.refl _ _,World.ownsRow_nil _ _ _ _⟩⟩
 case round =>
  obtain⟨k,out,A,c,rfl,rfl,hk,HI⟩:=hrel;clear d0;have HBD:=hd_ (HBX2.out.below HI.out.2.1 HBX2.out.lt);have d0:wr.cell? ⟨w.heap.size,0,none⟩=some (.slice Ar D.length cr):=HBD.out.cell 0;have d1:wr.cell? ⟨w.heap.size,1,none⟩=some dr:=HBD.out.cell 1;have HBW:=hd_ (z0r HB2.out HI.out.2.1);by_cases hlt:k<D.length
  ·obtain⟨ad,rfl,hab,hc⟩:=(HRV.out wr HBW.out).at_ hlt;have HNO:=hd_ (fun h=>refW_no HI.out.1 hlt h);have HPT:=hd_ (fun x h=>zm0 (x:=x) HI.out.1 hlt HDP.out.six h);have H6:=hd_ (HDP.out.six _ (List.getElem_mem hlt));generalize D[k]=r at hc HNO HPT H6;obtain⟨c0,-⟩:=hc;have HT1:=hd_ (HAT.out wr HBW.out r.path);have HWC:=hd_ (zon (f:=zdt es) (m:=m) (p:=r.path) HDP.out);have HFP:=hd_ (fun X (hX:Below w.heap.size w X)=>HFW.out X hX r.path H6.out);have HSP:=hd_ (HSM.out r.path H6.out);have HLT:=hd_ hlt;generalize rAt D r.path m=v at HT1 HWC;generalize hbo:decide (0<v.num)=bo at HT1 HWC;generalize zdt es r.path=o at HFP HSP HWC;clear hab hbo hlt;go_wp2_with fail;refine HT1.out.mono ?_;rintro e w3 ⟨rfl,hb⟩;dsimp only;have HV:=hd_ (z0l w3 [.string v.path,.int .i64 v.num,.int .i64 v.chg,.int .i64 v.act,.int .i64 v.ty.base,.bool v.ty.k,.bool v.ty.l,.bool v.ty.x,.int .u64 v.sum,.int .i64 v.size,.string v.frm,.int .i64 v.fnum] 66);have hb4:=z0r hb ((Below.refl w3.heap.size w3).alloc (Nat.le_refl _) (.cells #[.string v.path,.int .i64 v.num,.int .i64 v.chg,.int .i64 v.act,.int .i64 v.ty.base,.bool v.ty.k,.bool v.ty.l,.bool v.ty.x,.int .u64 v.sum,.int .i64 v.size,.string v.frm,.int .i64 v.fnum] 66));have HB4:=hd_ (z0r HBW.out hb4);have HL4:=hd_ (z0r HI.out.2.1 hb4);have HO4:=hd_ (z0n HI.out.2.2 hb4);have HRF:=hd_ HI.out.1;clear hb hb4 c0 d0 d1 HT1 HI;go_upto_region 10 with fail;generalize w3.alloc (.cells #[.string v.path,.int .i64 v.num,.int .i64 v.chg,.int .i64 v.act,.int .i64 v.ty.base,.bool v.ty.k,.bool v.ty.l,.bool v.ty.x,.int .u64 v.sum,.int .i64 v.size,.string v.frm,.int .i64 v.fnum] 66)=W4 at HV HB4 HL4 HO4 ⊢;generalize w3.heap.size=g4 at HV ⊢;have HFC:=hd_ (HFP.out W4 HB4.out);go_wp2_with fail;refine HFC.out.mono ?_;rintro e w5 ⟨rfl,hb⟩;dsimp only;have HV5:=hd_ (HV.out.below hb HV.out.lt);have HB5:=hd_ (z0r HB4.out hb);have HL5:=hd_ (z0r HL4.out hb);have HO5:=hd_ (z0n HO4.out hb);clear hb HFC HV;cases bo with
   | false =>
    have HN:=hd_ (HNO.out (HWC.out.1 rfl));go_wp2_with fail;go_roundw
    case rel=>exact⟨k+1,out,_,_,rfl,by go_num,HLT.out,hd_ ⟨HN.out,HL5.out,HO5.out⟩⟩
    case measure=>have:=HLT.out;simp [intOf];omega
   | true =>
    have HW2:=hd_ (HWC.out.2 rfl);clear HWC;cases o with
    | none =>
     have HN:=hd_ (HNO.out (HW2.out.1 rfl));go_wp2_with fail;go_roundw
     case rel=>exact⟨k+1,out,_,_,rfl,by go_num,HLT.out,hd_ ⟨HN.out,HL5.out,HO5.out⟩⟩
     case measure=>have:=HLT.out;simp [intOf];omega
    | some s =>
     have HGO:=hd_ (zhw v w5);obtain⟨y0,y1,y2,y3,y4,y5,y6,y7,y8,y9,y10,y11⟩:=z7z HV5.out;have hs200:=HSP.out s rfl;cases hlv:z2v v.act with
     | false =>
      have HN:=hd_ (HNO.out (HW2.out.2.1 hlv));rw[hlv] at HGO;clear hlv hs200;go_wp2_with fail;refine HGO.out.mono ?_;rintro e w6 ⟨rfl,hb⟩;dsimp only;have HL6:=hd_ (z0r HL5.out hb);have HO6:=hd_ (z0n HO5.out hb);clear hb y0 y1 y2 y3 y4 y5 y6 y7 y8 y9 y10 y11;go_wp2_with fail;go_roundw
      case rel=>exact⟨k+1,out,_,_,rfl,by go_num,HLT.out,hd_ ⟨HN.out,HL6.out,HO6.out⟩⟩
      case measure=>have:=HLT.out;simp [intOf];omega
     | true =>
      have HN:=hd_ (HPT.out _ (HW2.out.2.2 s rfl hlv));rw[hlv] at HGO;clear hlv;go_wp2_with fail;refine HGO.out.mono ?_;rintro e w6 ⟨rfl,hb⟩;dsimp only;have HV6:=hd_ (HV5.out.below hb HV5.out.lt);have HB6:=hd_ (z0r HB5.out hb);have HL6:=hd_ (z0r HL5.out hb);have HO6:=hd_ (z0n HO5.out hb);have HPU:Hid (Calls Tryz.prog 97 #[.slice A out.length c,.agg #[.string r.path,.int .i64 v.num,.string s]] w6 (zol w6 (zlr out ⟨r.path,v.num,s⟩))):=hd_ (zom out _ ⟨r.path,v.num,s⟩ w6 (HEV.out w6 HB6.out) (Row.of_own HO6.out) (fun x hx=>zft _ (HRF.out.2.1 x hx)) (zft _ H6.out).1 (zft _ H6.out).2 (by have:=zm2 HRF.out;omega))
      have y1:=HV6.out.cell 1;have z200:¬(200<(s.size:Int)):=by omega
      clear hb y0 y2 y3 y4 y5 y6 y7 y8 y9 y10 y11;go_wp2_with fail;refine HPU.out.mono ?_;rintro e w7 ⟨v7,rfl,hown,hb⟩;dsimp only;obtain⟨A7,c7,rfl⟩:=z0o hown;have HL7:=hd_ (z0r HL6.out hb);have HO7:=hd_ (z4p hown HL6.out.size);clear hb hown y1 z200;go_wp2_with fail;go_roundw
      case rel=>exact⟨k+1,zlr out ⟨r.path,v.num,s⟩,A7,c7,rfl,by go_num,HLT.out,hd_ ⟨HN.out,HL7.out,HO7.out⟩⟩
      case measure=>have:=HLT.out;simp [intOf];omega
  ·have hke:k=D.length:=by omega
   subst hke;have hge:¬((D.length:Int)<(D.length:Int)):=by omega
   have HB:=hd_ HBW.out;have HO:=hd_ (z4p HI.out.2.2 HB2.out.size);have e:=HEND.out out HI.out.1;subst e;go_wp2_with fail;go_ret2;exact⟨_,rfl,HO.out,HB.out⟩
end Go.Proofs.YtegeboijhifmcaaGreatDoor
