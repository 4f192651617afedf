/- A part of the proof. -/
import Derived.Test.YtegeboijhifmcaaGreatDoorMgs35
import Derived.Test.YtegeboijhifmcaaGreatDoorMgs31
set_option linter.unusedVariables false
set_option linter.unusedSimpArgs false
set_option maxHeartbeats 8000000
set_option maxRecDepth 100000
namespace Go.Proofs.YtegeboijhifmcaaGreatDoor
open Go.Proofs.Tryz
open Go.RowKit
section
variable {u0 u1 u2 u3 u4 u5 u6 u7 u8 u9 gn gt gu gx gy gz gA gC gD gE gF gG gH gI gJ gK gL gM gN gO gP gQ gR gT gV gW gX gY gZ i6 i7 i8 ia ib ic ie ig ii ij ik il im io ip iq ir iu iv iw ix iy iz : Value}
def mvB (x y:Edt):Bool:=(decide (x.act=5) && decide (y.act=4) && decide (y.frm=x.path)) || (decide (x.act=4) && decide (y.act=5) && decide (y.path=x.frm))
theorem movedR5 (ops:Array Oper)(hops:Tryz.f127.body.bind (zci 5)=some ops)(Q:Exit→Act→World→Prop)(g3 g7:Nat)(x y:Edt)(V:World)
  (h3:Blk V g3 90 [.string x.path,.int .i64 x.act,.int .i64 x.ty.base,.bool x.ty.k,.bool x.ty.l,.bool x.ty.x,.int .u64 x.sum,.int .i64 x.size,.int .i64 x.base,.string x.frm,.int .i64 x.fnum,.int .i64 x.fence]) (h7:Blk V g7 90 [.string y.path,.int .i64 y.act,.int .i64 y.ty.base,.bool y.ty.k,.bool y.ty.l,.bool y.ty.x,.int .u64 y.sum,.int .i64 y.size,.int .i64 y.base,.string y.frm,.int .i64 y.fnum,.int .i64 y.fence])
  (hQ:∀(el em en eo er et eu ez eA eB eC eD eE eF eG eH eI eJ eK eL eM eN eO eP eQ eR eS eT eU eV eW:Value),Q .normal ⟨#[u0,u1,u2,.pointer (some ⟨g3,0,none⟩),u4,u5,u6,.pointer (some ⟨g7,0,none⟩),u8,u9,gn,gt,gu,gx,gy,el,em,en,eo,er,et,eu,ez,eA,eB,eC,eD,eE,eF,eG,eH,eI,eJ,eK,eL,eM,eN,eO,eP,eQ,eR,eS,eT,eU,eV,eW,.bool (mvB x y),ii,ij,ik,il,im,io,ip,iq,ir,iu,iv,iw,ix,iy,iz],[]⟩ V):
  (Code.region 5 ops false).wp prog Q ⟨#[u0,u1,u2,.pointer (some ⟨g3,0,none⟩),u4,u5,u6,.pointer (some ⟨g7,0,none⟩),u8,u9,gn,gt,gu,gx,gy,gz,gA,gC,gD,gE,gF,gG,gH,gI,gJ,gK,gL,gM,gN,gO,gP,gQ,gR,gT,gV,gW,gX,gY,gZ,i6,i7,i8,ia,ib,ic,ie,ig,ii,ij,ik,il,im,io,ip,iq,ir,iu,iv,iw,ix,iy,iz],[]⟩ V:=by
 simp only[Tryz.f127,Option.bind_some,zci] at hops
 simp at hops
 subst hops;have HQ:=hd_ hQ;clear hQ;obtain⟨a0,a1,a2,a3,a4,a5,a6,a7,a8,a9,a10,a11⟩:=z7z h3;obtain⟨b0,b1,b2,b3,b4,b5,b6,b7,b8,b9,b10,b11⟩:=z7z h7;have HE:Hid (mvB x y=((decide (x.act=5) && decide (y.act=4) && decide (y.frm=x.path)) || (decide (x.act=4) && decide (y.act=5) && decide (y.path=x.frm)))):=hd_ rfl;by_cases c5:x.act=5
 ·have q5:(x.act == 5)=true:=by simpa using c5
  have q4:(x.act == 4)=false:=by rw[c5];rfl
  by_cases y4:y.act=4
  ·have r4:(y.act == 4)=true:=by simpa using y4
   have sq:=ze7 y.frm x.path;by_cases yp:y.frm=x.path
   ·rw[decide_eq_true yp] at sq;have e:mvB x y=true:=by rw[HE.out];simp [c5,y4,yp]
    rw[e] at HQ;clear c5 y4 yp e;go_wp2_with fail;exact HQ.out ..
   ·rw[decide_eq_false yp] at sq;have e:mvB x y=false:=by rw[HE.out];simp [c5,y4,yp]
    rw[e] at HQ;clear c5 y4 yp e;go_wp2_with fail;exact HQ.out ..
  ·have r4:(y.act == 4)=false:=by simpa using y4
   have e:mvB x y=false:=by rw[HE.out];simp [c5,y4]
   rw[e] at HQ;clear c5 y4 e;go_wp2_with fail;exact HQ.out ..
 ·have q5:(x.act == 5)=false:=by simpa using c5
  by_cases c4:x.act=4
  ·have q4:(x.act == 4)=true:=by simpa using c4
   by_cases y5:y.act=5
   ·have r5:(y.act == 5)=true:=by simpa using y5
    have sq:=ze7 y.path x.frm;by_cases yp:y.path=x.frm
    ·rw[decide_eq_true yp] at sq;have e:mvB x y=true:=by rw[HE.out];simp [c5,c4,y5,yp]
     rw[e] at HQ;clear c5 c4 y5 yp e;go_wp2_with fail;exact HQ.out ..
    ·rw[decide_eq_false yp] at sq;have e:mvB x y=false:=by rw[HE.out];simp [c5,c4,y5,yp]
     rw[e] at HQ;clear c5 c4 y5 yp e;go_wp2_with fail;exact HQ.out ..
   ·have r5:(y.act == 5)=false:=by simpa using y5
    have e:mvB x y=false:=by rw[HE.out];simp [c5,c4,y5]
    rw[e] at HQ;clear c5 c4 y5 e;go_wp2_with fail;exact HQ.out ..
  ·have q4:(x.act == 4)=false:=by simpa using c4
   have e:mvB x y=false:=by rw[HE.out];simp [c5,c4]
   rw[e] at HQ;clear c5 c4 e;go_wp2_with fail;exact HQ.out ..
theorem zi8 (es:List Edt)(x:Edt)(k:Nat)(h:k<es.length):zi6 (es.take (k+1)) x=zi6 (es.take k) x+(if mvB x es[k] then 1 else 0):=by
 unfold zi6;rw[List.take_succ_eq_append_getElem h,List.countP_append,List.countP_cons,List.countP_nil,Nat.zero_add];rfl
theorem zi9 (es:List Edt)(x:Edt)(k:Nat):zi6 (es.take k) x≤k:=by
 unfold zi6;have:=List.countP_le_length (p:=fun y:Edt=>(decide (x.act=5) && decide (y.act=4) && decide (y.frm=x.path)) || (decide (x.act=4) && decide (y.act=5) && decide (y.path=x.frm))) (l:=es.take k);rw[List.length_take] at this;omega
theorem zia (es:List Edt)(num:Int)(cl tx:ByteArray)(Ae Ac:Option Addr)(nc ce cc:Nat)(x:Edt)(w:World)(hE:z47 w (.slice Ae es.length ce) es)(hl:es.length≤100000):
  Calls prog 127 #[.agg #[.int .i64 num,.string cl,.string tx,.slice Ae es.length ce,.slice Ac nc cc],.agg #[.string x.path,.int .i64 x.act,.int .i64 x.ty.base,.bool x.ty.k,.bool x.ty.l,.bool x.ty.x,.int .u64 x.sum,.int .i64 x.size,.int .i64 x.base,.string x.frm,.int .i64 x.fnum,.int .i64 x.fence]] w fun e w'=>e=.returned (.bool (zi7 es x))∧Below w.heap.size w w':=by
 have HE:=hd_ hE;clear hE;have hb0:Below w.heap.size w ((w.alloc (.cells #[.int .i64 num,.string cl,.string tx,.slice Ae es.length ce,.slice Ac nc cc] 95)).alloc (.cells #[.string x.path,.int .i64 x.act,.int .i64 x.ty.base,.bool x.ty.k,.bool x.ty.l,.bool x.ty.x,.int .u64 x.sum,.int .i64 x.size,.int .i64 x.base,.string x.frm,.int .i64 x.fnum,.int .i64 x.fence] 90)):=((Below.refl _ _).alloc (Nat.le_refl _) _).alloc (by simp) _
 have hV:Blk ((w.alloc (.cells #[.int .i64 num,.string cl,.string tx,.slice Ae es.length ce,.slice Ac nc cc] 95)).alloc (.cells #[.string x.path,.int .i64 x.act,.int .i64 x.ty.base,.bool x.ty.k,.bool x.ty.l,.bool x.ty.x,.int .u64 x.sum,.int .i64 x.size,.int .i64 x.base,.string x.frm,.int .i64 x.fnum,.int .i64 x.fence] 90)) (w.heap.size+1) 90 [.string x.path,.int .i64 x.act,.int .i64 x.ty.base,.bool x.ty.k,.bool x.ty.l,.bool x.ty.x,.int .u64 x.sum,.int .i64 x.size,.int .i64 x.base,.string x.frm,.int .i64 x.fnum,.int .i64 x.fence]:=by
  have h1:=z0l (w.alloc (.cells #[.int .i64 num,.string cl,.string tx,.slice Ae es.length ce,.slice Ac nc cc] 95)) [.string x.path,.int .i64 x.act,.int .i64 x.ty.base,.bool x.ty.k,.bool x.ty.l,.bool x.ty.x,.int .u64 x.sum,.int .i64 x.size,.int .i64 x.base,.string x.frm,.int .i64 x.fnum,.int .i64 x.fence] 90;simp only[World.size_alloc] at h1
  exact h1
 have hB:Blk ((w.alloc (.cells #[.int .i64 num,.string cl,.string tx,.slice Ae es.length ce,.slice Ac nc cc] 95)).alloc (.cells #[.string x.path,.int .i64 x.act,.int .i64 x.ty.base,.bool x.ty.k,.bool x.ty.l,.bool x.ty.x,.int .u64 x.sum,.int .i64 x.size,.int .i64 x.base,.string x.frm,.int .i64 x.fnum,.int .i64 x.fence] 90)) w.heap.size 95 [.int .i64 num,.string cl,.string tx,.slice Ae es.length ce,.slice Ac nc cc]:=(z0l w _ _).alloc _;go_enter func127,ntmps127;go_upto_region 1 with fail;generalize (w.alloc (.cells #[.int .i64 num,.string cl,.string tx,.slice Ae es.length ce,.slice Ac nc cc] 95)).alloc (.cells #[.string x.path,.int .i64 x.act,.int .i64 x.ty.base,.bool x.ty.k,.bool x.ty.l,.bool x.ty.x,.int .u64 x.sum,.int .i64 x.size,.int .i64 x.base,.string x.frm,.int .i64 x.fnum,.int .i64 x.fence] 90)=W1 at hb0 hV hB ⊢;obtain⟨d0,d1,d2,d3,d4⟩:=zhx hB;have HV:=hd_ hV;have Hb0:=hd_ hb0;clear hb0 hV hB;go_wp2_with fail;clear d0 d1 d2 d3 d4;go_loopw [5,11] (fun n s wr=>∃ k:Nat,s=.int .i64 k∧n=.int .i64 (zi6 (es.take k) x)∧k≤es.length∧Hid (Below W1.heap.size W1 wr)) (fun _ s _=>es.length - (intOf s).toNat)
 case atStart=>exact⟨0,rfl,by rw[List.take_zero];rfl,Nat.zero_le _,Below.refl _ _⟩
 case round =>
  obtain⟨k,rfl,rfl,hk,HI⟩:=hrel;by_cases hlt:k<es.length
  ·obtain⟨ad,rfl,hab,hld⟩:=z47.at_ (HE.out.below (z0r Hb0.out HI.out)) hlt;have HN:=hd_ (zi8 es x k hlt);have hle:=zi9 es x k;generalize es[k]=y at hld HN;obtain⟨x0,x1,x2,x3,x4,x5,x6,x7,x8,x9,x10,x11⟩:=hld;have hY:=z0l wr [.string y.path,.int .i64 y.act,.int .i64 y.ty.base,.bool y.ty.k,.bool y.ty.l,.bool y.ty.x,.int .u64 y.sum,.int .i64 y.size,.int .i64 y.base,.string y.frm,.int .i64 y.fnum,.int .i64 y.fence] 90;have hA1:=HI.out.alloc HI.out.size (.cells #[.string y.path,.int .i64 y.act,.int .i64 y.ty.base,.bool y.ty.k,.bool y.ty.l,.bool y.ty.x,.int .u64 y.sum,.int .i64 y.size,.int .i64 y.base,.string y.frm,.int .i64 y.fnum,.int .i64 y.fence] 90);go_upto_region 5 with fail;clear x0 x1 x2 x3 x4 x5 x6 x7 x8 x9 x10 x11;generalize wr.alloc (.cells #[.string y.path,.int .i64 y.act,.int .i64 y.ty.base,.bool y.ty.k,.bool y.ty.l,.bool y.ty.x,.int .u64 y.sum,.int .i64 y.size,.int .i64 y.base,.string y.frm,.int .i64 y.fnum,.int .i64 y.fence] 90)=V1 at hY hA1 ⊢;generalize wr.heap.size=g7 at hY ⊢;have HA1:=hd_ hA1;have HY:=hd_ hY;clear hY hA1;refine movedR5 _ (by kernel_rfl) _ (w.heap.size+1) g7 x y V1 (HV.out.below HA1.out HV.out.lt) HY.out ?_
   intro el em en eo er et eu ez eA eB eC eD eE eF eG eH eI eJ eK eL eM eN eO eP eQ eR eS eT eU eV eW;cases hm:mvB x y
   ·rw[hm] at HN;clear hm;go_wp2_with fail;go_roundw
    case rel=>exact⟨k+1,by go_num,by rw[HN.out];simp,by omega,HA1.out⟩
    case measure=>simp [intOf];omega
   ·rw[hm] at HN;clear hm;go_wp2_with fail;go_roundw
    case rel=>exact⟨k+1,by go_num,by rw[HN.out];simp,by omega,HA1.out⟩
    case measure=>simp [intOf];omega
  ·have hke:k=es.length:=by omega
   subst hke;obtain⟨a0,a1,a2,a3,a4,a5,a6,a7,a8,a9,a10,a11⟩:=z7z (HV.out.below HI.out HV.out.lt);have HMB:Hid (zi7 es x=(decide (zi6 es x=1) || (decide (x.act≠5) && decide (x.act≠4)))):=hd_ rfl;have HB:=hd_ (z0r Hb0.out HI.out);rw[List.take_length];generalize zi6 es x=m at HMB ⊢;by_cases h1:m=1
   ·have HV:Hid (zi7 es x=true):=hd_ (by rw[HMB.out];simp [h1])
    subst h1;go_wp2_with fail;go_ret;exact⟨z0w HV.out.symm,HB.out⟩
   ·have q1:((m:Int) == 1)=false:=by simp;omega
    by_cases h5:x.act=5
    ·have q5:(x.act != 5)=false:=by simpa using h5
     have HV:Hid (zi7 es x=false):=hd_ (by rw[HMB.out];simp [h1,h5])
     clear h1 h5;go_wp2_with fail;go_ret;exact⟨z0w HV.out.symm,HB.out⟩
    ·have q5:(x.act != 5)=true:=by simpa using h5
     by_cases h4:x.act=4
     ·have q4:(x.act != 4)=false:=by simpa using h4
      have HV:Hid (zi7 es x=false):=hd_ (by rw[HMB.out];simp [h1,h5,h4])
      clear h1 h5 h4;go_wp2_with fail;go_ret;exact⟨z0w HV.out.symm,HB.out⟩
     ·have q4:(x.act != 4)=true:=by simpa using h4
      have HV:Hid (zi7 es x=true):=hd_ (by rw[HMB.out];simp [h1,h5,h4])
      clear h1 h5 h4;go_wp2_with fail;go_ret;exact⟨z0w HV.out.symm,HB.out⟩
end
def RrFst (W wr:World)(k:Nat)(v:Value)(q:Pat):Prop:=Below W.heap.size W wr∧(k=0→v=.slice none 0 0)∧(k=1→∃(g cap c:Nat) (C:Option Addr),v=.slice (some ⟨g,0,none⟩) 1 cap∧1≤cap∧wr.cell? ⟨g,0,none⟩=some (.slice C q.parts.length c)∧wr.cell? ⟨g,1,none⟩=some (.bool q.rest)∧za9 wr (.slice C q.parts.length c) q)
theorem zo2 (l r h m:Pat)(A B C:Option Addr)(a b c:Nat)(ad:Addr)(hc:Nat)(w:World)(hl:za9 w (.slice A l.parts.length a) l)(hr:za9 w (.slice C r.parts.length c) r)(hh:za9 w (.slice B h.parts.length b) h)(hn:zcw l r h m)(hsym:znr l h)(hs2:znr r (zcv l r m))(hr2:(zcv l r m).rest=true)(hc1:1≤hc)(h0:w.cell? ad=some (.slice B h.parts.length b))(h1:w.cell? ⟨ad.block,ad.off+1,none⟩=some (.bool h.rest)):
  Calls prog 138 #[.agg #[.slice A l.parts.length a,.bool l.rest,.slice C r.parts.length c,.bool r.rest,.slice (some ad) 1 hc]] w (zo0 w (.slice C r.parts.length c) r.rest):=by
 obtain⟨W1,hW1⟩:∃ W,W=(w.alloc (.cells #[.slice A l.parts.length a,.bool l.rest,.slice C r.parts.length c,.bool r.rest,.slice (some ad) 1 hc] 100)).alloc (.cells #[.slice none 0 0,.bool false,.slice none 0 0] 115):=⟨_,rfl⟩;have hA:Below w.heap.size w W1:=by rw[hW1];exact ((Below.refl _ _).alloc (Nat.le_refl _) _).alloc (by simp) _
 have hX1:Blk W1 w.heap.size 100 [.slice A l.parts.length a,.bool l.rest,.slice C r.parts.length c,.bool r.rest,.slice (some ad) 1 hc]:=by rw[hW1];exact (z0l w _ _).alloc _
 have h2:Blk W1 (w.heap.size+1) 115 [.slice none 0 0,.bool false,.slice none 0 0]:=by
  rw[hW1];have:=z0l (w.alloc (.cells #[.slice A l.parts.length a,.bool l.rest,.slice C r.parts.length c,.bool r.rest,.slice (some ad) 1 hc] 100)) [.slice none 0 0,.bool false,.slice none 0 0] 115;simp only[World.size_alloc] at this
  exact this
 have HW1:=hd_ hW1;have HA:=hd_ hA;have H1:=hd_ hX1;have H2:=hd_ h2;have HL:=hd_ (fun X (hX:Below w.heap.size w X)=>hl.below hX);have HR:=hd_ (fun X (hX:Below w.heap.size w X)=>hr.below hX);have HH:=hd_ (fun X (hX:Below w.heap.size w X)=>hh.below hX);have HN:=hd_ hn;have HSY:=hd_ hsym;have HS2:=hd_ hs2;have HR2:=hd_ hr2;have HC:Hid (∀ X,Below w.heap.size w X→X.cell? ad=some (.slice B h.parts.length b)∧X.cell? ⟨ad.block,ad.off+1,none⟩=some (.bool h.rest)):=hd_ fun X hX=>⟨z04 h0 hX (z03 h0),z04 h1 hX (z03 h1)⟩;clear hW1 hA hX1 h2 hl hr hh hn hsym hs2 hr2 h0 h1;go_enter func138,ntmps138;go_upto_region 1 with fail;rw[← HW1.out];have y4:W1.cell? ⟨w.heap.size,4,none⟩=some (.slice (some ad) 1 hc):=H1.out.cell 4;clear HW1;go_wp2_with fail;clear y4;go_loopw [4,13] (fun v i wr=>∃ k:Nat,i=.int .i64 k∧k≤1∧Hid (RrFst W1 wr k v (zcv l r m))) (fun _ i _=>1 - (intOf i).toNat)
 case atStart=>exact⟨0,rfl,Nat.zero_le _,hd_ ⟨Below.refl _ _,fun _=>rfl,fun e=>by omega⟩⟩
 case round =>
  obtain⟨k,rfl,hk,HI⟩:=hrel;by_cases hlt:k<1
  ·have hk0:k=0:=by omega
   subst hk0;obtain⟨hlow,hv,-⟩:=HI.out;have hv:=hv rfl;subst hv;obtain⟨s0,s1⟩:=HC.out wr (z0r HA.out hlow);have hX:Below wr.heap.size wr (wr.alloc (.cells #[.slice B h.parts.length b,.bool h.rest] 97)):=(Below.refl _ _).alloc (Nat.le_refl _) _;have HX5:Hid (zbo _ _ _ _):=hd_ (z0l wr [.slice B h.parts.length b,.bool h.rest] 97);have HL5:=hd_ (z0r hlow hX);clear hX hlow HI;go_upto_region 5 with fail;clear s0 s1;generalize wr.alloc (.cells #[.slice B h.parts.length b,.bool h.rest] 97)=W5 at HX5 HL5 ⊢;generalize wr.heap.size=g6 at HX5 ⊢;have HWA:=hd_ (z0r HA.out HL5.out);refine rrR5 _ (by kernel_rfl) _ l r h m A B C (some ad) a b c 1 hc w.heap.size g6 W5 (H1.out.below HL5.out H1.out.lt) HX5.out (HL.out W5 HWA.out) (HH.out W5 HWA.out) (HR.out W5 HWA.out) HN.out HSY.out ?_
   intro en eo er et eu ez eA eB g7 A' C' a' c' w' hb' hc3 hc4 hg7 hin;have HB7:=hd_ (z0r HL5.out hb');have HIN:=hd_ hin;have hc4':w'.cell? ⟨g7,4,none⟩=some (.bool (zcv l r m).rest):=by rw[hc4,HR2.out]
   clear hb' hg7 hin hc4;have hrow:=z0i w' [.slice C' (zcv l r m).parts.length c',.bool (zcv l r m).rest] 97 2 1 rfl (by unfold maxLen;omega) w'.heap.size rfl
   have HON:=hd_ (World.ownsRow_nil (w'.alloc (.cells #[.slice C' (zcv l r m).parts.length c',.bool (zcv l r m).rest] 97)) w'.heap.size 97 2);have HB8:=hd_ (z0r HB7.out ((Below.refl w'.heap.size w').alloc (Nat.le_refl _) (.cells #[.slice C' (zcv l r m).parts.length c',.bool (zcv l r m).rest] 97)));have HIN8:=hd_ (HIN.out.below ((Below.refl w'.heap.size w').alloc (Nat.le_refl _) (.cells #[.slice C' (zcv l r m).parts.length c',.bool (zcv l r m).rest] 97)));go_wp2_with (at_builtin;refine z0j rfl rfl zdd HON.out rfl hrow rfl (by simp [Value.oneCell']) (by omega) (by unfold maxLen;omega) (by simp) ?_;intro A9 c9 w8 hown hgr hob)
   have hb8:=zm9 hgr rfl;have HN9:Hid (RrFst W1 w8 1 (.slice A9 (0+1) c9) (zcv l r m)):=hd_ (by
    obtain⟨g,rfl,hcc,q0,q1⟩:=zny hown;exact⟨z0r HB8.out hb8,fun e=>by omega,fun _=>⟨g,c9,c',C',rfl,hcc,q0,q1,HIN8.out.below hb8⟩⟩)
   clear hown hgr hob hb8 hrow hc3 hc4';go_roundw
   case rel=>exact⟨1,by go_num,Nat.le_refl _,HN9⟩
   case measure=>simp [intOf]
  ·have hk1:k=1:=by omega
   subst hk1;obtain⟨hlow,-,hx⟩:=HI.out;obtain⟨g,cap,c7,C7,rfl,hcap,q0,q1,hin⟩:=hx rfl;have HB:=hd_ (z0r HA.out hlow);have hX3:=H1.out.below hlow H1.out.lt;obtain⟨y2,y3⟩:=(⟨hX3.cell 2,hX3.cell 3⟩:wr.cell? ⟨w.heap.size,2,none⟩=some (.slice C r.parts.length c)∧wr.cell? ⟨w.heap.size,3,none⟩=some (.bool r.rest));have HS:=hd_ (znz r (zcv l r m) C C7 c c7 g cap wr (HR.out wr HB.out) hin HS2.out hcap q0 q1);have HE2:=hd_ (H2.out.below hlow H2.out.lt);clear hlow hx hX3 q0 q1 hin HI;go_wp2_with fail;refine HS.out.mono ?_;rintro e w2 ⟨hb,H9,n9,c9,rfl⟩;dsimp only;have HB2:=hd_ (z0r HB.out hb);have HX2:=hd_ (HE2.out.below hb HE2.out.lt);obtain⟨u0,u1,u2⟩:=(⟨HX2.out.cell 0,HX2.out.cell 1,HX2.out.cell 2⟩:w2.cell? ⟨w.heap.size+1,0,none⟩=some (.slice none 0 0)∧w2.cell? ⟨w.heap.size+1,1,none⟩=some (.bool false)∧w2.cell? ⟨w.heap.size+1,2,none⟩=some (.slice none 0 0));obtain⟨f0,f1,f2⟩:=(⟨HX2.out.frozen 0,HX2.out.frozen 1,HX2.out.frozen 2⟩:w2.frozen? ⟨w.heap.size+1,0,none⟩=false∧w2.frozen? ⟨w.heap.size+1,1,none⟩=false∧w2.frozen? ⟨w.heap.size+1,2,none⟩=false);clear hb y2 y3 HS;go_wp2_with fail;have hE:=((HX2.out.set_ 0 (.slice C r.parts.length c)).set_ 1 (.bool r.rest)).set_ 2 (.slice H9 n9 c9);have hb:=((HB2.out.setCell (p:=⟨w.heap.size+1,0,none⟩) (by simp) (.slice C r.parts.length c)).setCell (p:=⟨w.heap.size+1,1,none⟩) (by simp) (.bool r.rest)).setCell (p:=⟨w.heap.size+1,2,none⟩) (by simp) (.slice H9 n9 c9)
   generalize ((w2.setCell ⟨w.heap.size+1,0,none⟩ (.slice C r.parts.length c)).setCell ⟨w.heap.size+1,1,none⟩ (.bool r.rest)).setCell ⟨w.heap.size+1,2,none⟩ (.slice H9 n9 c9)=W8 at hE hb ⊢;have e0:=hE.cell 0;have e1:=hE.cell 1;have e2:=hE.cell 2;exact bodyPost_ret (v:=.tuple #[.agg #[.slice C r.parts.length c,.bool r.rest,.slice H9 n9 c9],.bool true]) (by simp [results,results138,go_sem,e0,e1,e2]) rfl ⟨hb,H9,n9,c9,rfl⟩
theorem zo6 (w:World)(A:Option Addr)(c:Nat)(es:List zd8)(P:Ending→World→Prop)(hE:zdi w (.slice A es.length c) es)(hl:es.length≤32)
  (hK:∀ x∈es,∀ X,Below w.heap.size w X→Calls prog 134 #[.agg #[.bool false,x.l.v,.bool x.l.1.rest,x.r.v,.bool x.r.1.rest]] X fun e w'=>e=.returned (.int .i64 0)∧Below X.heap.size X w')
  (hG:∀ x∈es,∀ X,Below w.heap.size w X→Calls prog 136 #[.agg #[x.l.v,.bool x.l.1.rest,x.hv]] X fun e w'=>e=.returned (.int .i64 0)∧Below X.heap.size X w')
  (hR:∀ x∈es,∀ X,Below w.heap.size w X→Calls prog 138 #[x.val] X (zo0 X x.r.v x.r.1.rest))
  (hT16:∀ T',Tryz.f93.body.bind (zhv 16)=some T'→∀ W',Below w.heap.size w W'→∀(u1 u2 u3 u4 u5 u6 u7 u8 u9 gn gt gu gx gy gz gA gC gD gE gF gG gH gI gJ gK gL gM gN gO gP gQ gR gT gV gW gX gY gZ i6 i7 i8 ia ib ic ie ig ii ij ik il im io ip iq ir iu iv iw ix iy iz iA iB iC iD iE iF iG iH iI iJ iK iL iM iN iO iP iQ iR iS iT iU iV iW iX iY iZ j0 j1 j2 j5:Value),T'.wp prog (bodyPost prog Tryz.f93 P) ⟨#[.slice A es.length c,u1,u2,u3,u4,u5,u6,u7,u8,u9,gn,gt,gu,gx,gy,gz,gA,gC,gD,gE,gF,gG,gH,gI,gJ,gK,gL,gM,gN,gO,gP,gQ,gR,gT,gV,gW,gX,gY,gZ,i6,i7,i8,ia,ib,ic,ie,ig,ii,ij,ik,il,im,io,ip,iq,ir,iu,iv,iw,ix,iy,iz,iA,iB,iC,iD,iE,iF,iG,iH,iI,iJ,iK,iL,iM,iN,iO,iP,iQ,iR,iS,iT,iU,iV,iW,iX,iY,iZ,j0,j1,j2,j5],[]⟩ W'):
  Calls prog 93 #[.slice A es.length c] w P:=by
 have HE:=hd_ (fun X (hX:Below w.heap.size w X)=>hE.below hX);have HR:=hd_ hR;have HK:=hd_ hK;have HG:=hd_ hG;have HT:=hd_ hT16;clear hE hR hT16 hK hG;go_enter func93,ntmps93;go_wp2_with fail;go_loopw [20] (fun i wr=>∃ k:Nat,i=.int .i64 k∧k≤es.length∧Hid (Below w.heap.size w wr)) (fun i _=>es.length - (intOf i).toNat)
 case atStart=>exact⟨0,rfl,Nat.zero_le _,hd_ (Below.refl _ _)⟩
 case round =>
  obtain⟨k,rfl,hk,HI⟩:=hrel;by_cases hlt:k<es.length
  ·have HEX:=hd_ (HE.out wr HI.out);obtain⟨ad,rfl,hab,s0,s1,s2,s3,s4⟩:=HEX.out.at_ hlt;have HXI:=hd_ (HEX.out.2 es[k] (List.getElem_mem hlt));have HXK:=hd_ (HK.out es[k] (List.getElem_mem hlt));have HXG:=hd_ (HG.out es[k] (List.getElem_mem hlt));generalize es[k]=x at s0 s1 s2 s3 s4 HXI HXK HXG;obtain⟨H,hc,hhv⟩:=HXI.out.holes;obtain⟨⟨pl,Al,cl⟩,⟨pr,Ar,cr⟩,hv,hs⟩:=x;change hv=.slice H hs.length hc at hhv;subst hhv;change wr.cell? _=some (.slice Al pl.parts.length cl) at s0;change wr.cell? _=some (.bool pl.rest) at s1;change wr.cell? _=some (.slice Ar pr.parts.length cr) at s2;change wr.cell? _=some (.bool pr.rest) at s3;change wr.cell? _=some (.slice H hs.length hc) at s4;have hX:Below wr.heap.size wr (wr.alloc (.cells #[.slice Al pl.parts.length cl,.bool pl.rest,.slice Ar pr.parts.length cr,.bool pr.rest,.slice H hs.length hc] 100)):=(Below.refl _ _).alloc (Nat.le_refl _) _;have HX:=hd_ (z0r HI.out hX);have HN:Hid (Blk (wr.alloc (.cells #[.slice Al pl.parts.length cl,.bool pl.rest,.slice Ar pr.parts.length cr,.bool pr.rest,.slice H hs.length hc] 100)) wr.heap.size 100 [.slice Al pl.parts.length cl,.bool pl.rest,.slice Ar pr.parts.length cr,.bool pr.rest,.slice H hs.length hc]):=hd_ (z0l wr _ _);clear hab hX;go_upto_region 4 with fail;generalize wr.alloc (.cells #[.slice Al pl.parts.length cl,.bool pl.rest,.slice Ar pr.parts.length cr,.bool pr.rest,.slice H hs.length hc] 100)=W4 at HX HN ⊢;generalize wr.heap.size=g7 at HN ⊢;clear s0 s1 s2 s3 s4;obtain⟨x0,x1,x2,x3,x4⟩:=(⟨HN.out.cell 0,HN.out.cell 1,HN.out.cell 2,HN.out.cell 3,HN.out.cell 4⟩:W4.cell? ⟨g7,0,none⟩=some (.slice Al pl.parts.length cl)∧W4.cell? ⟨g7,1,none⟩=some (.bool pl.rest)∧W4.cell? ⟨g7,2,none⟩=some (.slice Ar pr.parts.length cr)∧W4.cell? ⟨g7,3,none⟩=some (.bool pr.rest)∧W4.cell? ⟨g7,4,none⟩=some (.slice H hs.length hc));have HLI:=hd_ (znu Al Ar pl.parts.length pr.parts.length cl cr pl.rest pr.rest (.slice H hs.length hc) W4);go_wp2_with fail;refine HLI.out.mono ?_;rintro e w5 ⟨rfl,hb5⟩;dsimp only;have HB5:=hd_ (z0r HX.out hb5)
   have HN5:=hd_ (HN.out.below hb5 HN.out.lt);have HC5:Hid (Calls prog 134 #[.agg #[.bool false,.slice Al pl.parts.length cl,.bool pl.rest,.slice Ar pr.parts.length cr,.bool pr.rest]] w5 fun e w'=>e=.returned (.int .i64 0)∧Below w5.heap.size w5 w'):=hd_ (HXK.out w5 HB5.out);clear hb5 x0 x1 x2 x3 x4 HLI;go_wp2_with fail;refine HC5.out.mono ?_;rintro e w6 ⟨rfl,hb6⟩;dsimp only;have HB6:=hd_ (z0r HB5.out hb6);have HN6:=hd_ (HN5.out.below hb6 HN5.out.lt);clear hb6 HC5;obtain⟨x0,x1,x2,x3,x4⟩:=(⟨HN6.out.cell 0,HN6.out.cell 1,HN6.out.cell 2,HN6.out.cell 3,HN6.out.cell 4⟩:w6.cell? ⟨g7,0,none⟩=some (.slice Al pl.parts.length cl)∧w6.cell? ⟨g7,1,none⟩=some (.bool pl.rest)∧w6.cell? ⟨g7,2,none⟩=some (.slice Ar pr.parts.length cr)∧w6.cell? ⟨g7,3,none⟩=some (.bool pr.rest)∧w6.cell? ⟨g7,4,none⟩=some (.slice H hs.length hc));have HLE:=hd_ (znv Al H pl.parts.length cl hs.length hc pl.rest pr.rest (.slice Ar pr.parts.length cr) w6);go_wp2_with fail;refine HLE.out.mono ?_;rintro e w7 ⟨rfl,hb7⟩;dsimp only;have HB7:=hd_ (z0r HB6.out hb7);have HC7:Hid (Calls prog 136 #[.agg #[.slice Al pl.parts.length cl,.bool pl.rest,.slice H hs.length hc]] w7 fun e w'=>e=.returned (.int .i64 0)∧Below w7.heap.size w7 w'):=hd_ (HXG.out w7 HB7.out);clear hb7 x0 x1 x2 x3 x4 HLE;go_wp2_with fail;refine HC7.out.mono ?_;rintro e w8 ⟨rfl,hb8⟩;dsimp only;have HB8:=hd_ (z0r HB7.out hb8);clear hb8 HC7;go_wp2_with fail;go_roundw
   case rel=>exact⟨k+1,by go_num,by omega,HB8⟩
   case measure=>simp [intOf];omega
  ·have hke:k=es.length:=by omega
   subst hke;have HB:=hd_ HI.out;have hge:¬((es.length:Int)<(es.length:Int)):=by omega
   have h32:¬((32:Int)<(es.length:Int)):=by omega
   have HT9:=hd_ (fun(T:Code) hT=>rcT9 T hT P wr A c es (HE.out wr HB.out) hl (fun x hx X hX=>HR.out x hx X (z0r HB.out hX)) (fun T' hT' W' hW'=>HT.out T' hT' W' (z0r HB.out hW')));clear HI;go_upto_region 7 with fail;rename ∀ a w,Code.wp _ (Code.seq (Code.seq (Code.region 9 _ _) _) _) _ a w→_=>hk7
   have HK7:=hd_ hk7;clear hk7;go_wp2_with fail;exact HK7.out _ _ (HT9.out _ (by kernel_rfl) _ _ _ _ _ _ _ _ _ _ _ _ _ _ _ _ _ _ _ _ _ _ _ _ _ _ _ _ _ _ _ _ _ _ _ _ _ _ _ _ _ _ _ _ _ _ _ _ _ _ _ _ _ _ _ _ _ _ _ _ _ _ _ _ _ _ _ _ _ _ _ _ _ _ _ _ _ _ _ _ _ _ _ _ _ _ _ _ _ _ _)
end Go.Proofs.YtegeboijhifmcaaGreatDoor
