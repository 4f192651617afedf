/- A part of the proof. -/
import Derived.Test.YtegeboijhifmcaaGreatDoorMgw26
import Derived.Test.YtegeboijhifmcaaGreatDoorMgw21
import Derived.Test.YtegeboijhifmcaaGreatDoorMgw27
set_option linter.unusedVariables false
set_option linter.unusedSimpArgs false
set_option maxHeartbeats 4000000
set_option maxRecDepth 100000
namespace Go.Proofs.YtegeboijhifmcaaGreatDoor
open Go.Proofs.Tryz
open Go.RowKit
section
variable {u0 u1 u2 u3 u4 u5 u6 u7 u8 u9 gn gt gu gx gy gz gA gC gD gE gF gG gH gI gJ gK gL gM gN gO gP gQ gR gT gV gW gX gY gZ i6 i7 i8 ia ib ic ie ig ii ij ik il im io ip iq ir iu iv iw ix iy iz : Value}
def mvB (x y:Edt):Bool:=(decide (x.act=5) && decide (y.act=4) && decide (y.frm=x.path)) || (decide (x.act=4) && decide (y.act=5) && decide (y.path=x.frm))
theorem movedR5 (ops:Array Oper)(hops:Tryz.f127.body.bind (zci 5)=some ops)(Q:Exit→Act→World→Prop)(g3 g7:Nat)(x y:Edt)(V:World)
  (h3:Blk V g3 90 [.string x.path,.int .i64 x.act,.int .i64 x.ty.base,.bool x.ty.k,.bool x.ty.l,.bool x.ty.x,.int .u64 x.sum,.int .i64 x.size,.int .i64 x.base,.string x.frm,.int .i64 x.fnum,.int .i64 x.fence]) (h7:Blk V g7 90 [.string y.path,.int .i64 y.act,.int .i64 y.ty.base,.bool y.ty.k,.bool y.ty.l,.bool y.ty.x,.int .u64 y.sum,.int .i64 y.size,.int .i64 y.base,.string y.frm,.int .i64 y.fnum,.int .i64 y.fence])
  (hQ:∀(el em en eo er et eu ez eA eB eC eD eE eF eG eH eI eJ eK eL eM eN eO eP eQ eR eS eT eU eV eW:Value),Q .normal ⟨#[u0,u1,u2,.pointer (some ⟨g3,0,none⟩),u4,u5,u6,.pointer (some ⟨g7,0,none⟩),u8,u9,gn,gt,gu,gx,gy,el,em,en,eo,er,et,eu,ez,eA,eB,eC,eD,eE,eF,eG,eH,eI,eJ,eK,eL,eM,eN,eO,eP,eQ,eR,eS,eT,eU,eV,eW,.bool (mvB x y),ii,ij,ik,il,im,io,ip,iq,ir,iu,iv,iw,ix,iy,iz],[]⟩ V):
  (Code.region 5 ops false).wp prog Q ⟨#[u0,u1,u2,.pointer (some ⟨g3,0,none⟩),u4,u5,u6,.pointer (some ⟨g7,0,none⟩),u8,u9,gn,gt,gu,gx,gy,gz,gA,gC,gD,gE,gF,gG,gH,gI,gJ,gK,gL,gM,gN,gO,gP,gQ,gR,gT,gV,gW,gX,gY,gZ,i6,i7,i8,ia,ib,ic,ie,ig,ii,ij,ik,il,im,io,ip,iq,ir,iu,iv,iw,ix,iy,iz],[]⟩ V:=by
 simp only[Tryz.f127,Option.bind_some,zci] at hops
 simp at hops
 subst hops;have HQ:=hd_ hQ;clear hQ;obtain⟨a0,a1,a2,a3,a4,a5,a6,a7,a8,a9,a10,a11⟩:=z7z h3;obtain⟨b0,b1,b2,b3,b4,b5,b6,b7,b8,b9,b10,b11⟩:=z7z h7;have HE:Hid (mvB x y=((decide (x.act=5) && decide (y.act=4) && decide (y.frm=x.path)) || (decide (x.act=4) && decide (y.act=5) && decide (y.path=x.frm)))):=hd_ rfl;by_cases c5:x.act=5
 ·have q5:(x.act == 5)=true:=by simpa using c5
  have q4:(x.act == 4)=false:=by rw[c5];rfl
  by_cases y4:y.act=4
  ·have r4:(y.act == 4)=true:=by simpa using y4
   have sq:=ze7 y.frm x.path;by_cases yp:y.frm=x.path
   ·rw[decide_eq_true yp] at sq;have e:mvB x y=true:=by rw[HE.out];simp [c5,y4,yp]
    rw[e] at HQ;clear c5 y4 yp e;go_wp2_with fail;exact HQ.out ..
   ·rw[decide_eq_false yp] at sq;have e:mvB x y=false:=by rw[HE.out];simp [c5,y4,yp]
    rw[e] at HQ;clear c5 y4 yp e;go_wp2_with fail;exact HQ.out ..
  ·have r4:(y.act == 4)=false:=by simpa using y4
   have e:mvB x y=false:=by rw[HE.out];simp [c5,y4]
   rw[e] at HQ;clear c5 y4 e;go_wp2_with fail;exact HQ.out ..
 ·have q5:(x.act == 5)=false:=by simpa using c5
  by_cases c4:x.act=4
  ·have q4:(x.act == 4)=true:=by simpa using c4
   by_cases y5:y.act=5
   ·have r5:(y.act == 5)=true:=by simpa using y5
    have sq:=ze7 y.path x.frm;by_cases yp:y.path=x.frm
    ·rw[decide_eq_true yp] at sq;have e:mvB x y=true:=by rw[HE.out];simp [c5,c4,y5,yp]
     rw[e] at HQ;clear c5 c4 y5 yp e;go_wp2_with fail;exact HQ.out ..
    ·rw[decide_eq_false yp] at sq;have e:mvB x y=false:=by rw[HE.out];simp [c5,c4,y5,yp]
     rw[e] at HQ;clear c5 c4 y5 yp e;go_wp2_with fail;exact HQ.out ..
   ·have r5:(y.act == 5)=false:=by simpa using y5
    have e:mvB x y=false:=by rw[HE.out];simp [c5,c4,y5]
    rw[e] at HQ;clear c5 c4 y5 e;go_wp2_with fail;exact HQ.out ..
  ·have q4:(x.act == 4)=false:=by simpa using c4
   have e:mvB x y=false:=by rw[HE.out];simp [c5,c4]
   rw[e] at HQ;clear c5 c4 e;go_wp2_with fail;exact HQ.out ..
theorem zi8 (es:List Edt)(x:Edt)(k:Nat)(h:k<es.length):zi6 (es.take (k+1)) x=zi6 (es.take k) x+(if mvB x es[k] then 1 else 0):=by
 unfold zi6;rw[List.take_succ_eq_append_getElem h,List.countP_append,List.countP_cons,List.countP_nil,Nat.zero_add];rfl
theorem zi9 (es:List Edt)(x:Edt)(k:Nat):zi6 (es.take k) x≤k:=by
 unfold zi6;have:=List.countP_le_length (p:=fun y:Edt=>(decide (x.act=5) && decide (y.act=4) && decide (y.frm=x.path)) || (decide (x.act=4) && decide (y.act=5) && decide (y.path=x.frm))) (l:=es.take k);rw[List.length_take] at this;omega
theorem zia (es:List Edt)(num:Int)(cl tx:ByteArray)(Ae Ac:Option Addr)(nc ce cc:Nat)(x:Edt)(w:World)(hE:z47 w (.slice Ae es.length ce) es)(hl:es.length≤100000):
  Calls prog 127 #[.agg #[.int .i64 num,.string cl,.string tx,.slice Ae es.length ce,.slice Ac nc cc],.agg #[.string x.path,.int .i64 x.act,.int .i64 x.ty.base,.bool x.ty.k,.bool x.ty.l,.bool x.ty.x,.int .u64 x.sum,.int .i64 x.size,.int .i64 x.base,.string x.frm,.int .i64 x.fnum,.int .i64 x.fence]] w fun e w'=>e=.returned (.bool (zi7 es x))∧Below w.heap.size w w':=by
 have HE:=hd_ hE;clear hE;have hb0:Below w.heap.size w ((w.alloc (.cells #[.int .i64 num,.string cl,.string tx,.slice Ae es.length ce,.slice Ac nc cc] 95)).alloc (.cells #[.string x.path,.int .i64 x.act,.int .i64 x.ty.base,.bool x.ty.k,.bool x.ty.l,.bool x.ty.x,.int .u64 x.sum,.int .i64 x.size,.int .i64 x.base,.string x.frm,.int .i64 x.fnum,.int .i64 x.fence] 90)):=((Below.refl _ _).alloc (Nat.le_refl _) _).alloc (by simp) _
 have hV:Blk ((w.alloc (.cells #[.int .i64 num,.string cl,.string tx,.slice Ae es.length ce,.slice Ac nc cc] 95)).alloc (.cells #[.string x.path,.int .i64 x.act,.int .i64 x.ty.base,.bool x.ty.k,.bool x.ty.l,.bool x.ty.x,.int .u64 x.sum,.int .i64 x.size,.int .i64 x.base,.string x.frm,.int .i64 x.fnum,.int .i64 x.fence] 90)) (w.heap.size+1) 90 [.string x.path,.int .i64 x.act,.int .i64 x.ty.base,.bool x.ty.k,.bool x.ty.l,.bool x.ty.x,.int .u64 x.sum,.int .i64 x.size,.int .i64 x.base,.string x.frm,.int .i64 x.fnum,.int .i64 x.fence]:=by
  have h1:=z0l (w.alloc (.cells #[.int .i64 num,.string cl,.string tx,.slice Ae es.length ce,.slice Ac nc cc] 95)) [.string x.path,.int .i64 x.act,.int .i64 x.ty.base,.bool x.ty.k,.bool x.ty.l,.bool x.ty.x,.int .u64 x.sum,.int .i64 x.size,.int .i64 x.base,.string x.frm,.int .i64 x.fnum,.int .i64 x.fence] 90;simp only[World.size_alloc] at h1
  exact h1
 have hB:Blk ((w.alloc (.cells #[.int .i64 num,.string cl,.string tx,.slice Ae es.length ce,.slice Ac nc cc] 95)).alloc (.cells #[.string x.path,.int .i64 x.act,.int .i64 x.ty.base,.bool x.ty.k,.bool x.ty.l,.bool x.ty.x,.int .u64 x.sum,.int .i64 x.size,.int .i64 x.base,.string x.frm,.int .i64 x.fnum,.int .i64 x.fence] 90)) w.heap.size 95 [.int .i64 num,.string cl,.string tx,.slice Ae es.length ce,.slice Ac nc cc]:=(z0l w _ _).alloc _;go_enter func127,ntmps127;go_upto_region 1 with fail;generalize (w.alloc (.cells #[.int .i64 num,.string cl,.string tx,.slice Ae es.length ce,.slice Ac nc cc] 95)).alloc (.cells #[.string x.path,.int .i64 x.act,.int .i64 x.ty.base,.bool x.ty.k,.bool x.ty.l,.bool x.ty.x,.int .u64 x.sum,.int .i64 x.size,.int .i64 x.base,.string x.frm,.int .i64 x.fnum,.int .i64 x.fence] 90)=W1 at hb0 hV hB ⊢;obtain⟨d0,d1,d2,d3,d4⟩:=zhx hB;have HV:=hd_ hV;have Hb0:=hd_ hb0;clear hb0 hV hB;go_wp2_with fail;clear d0 d1 d2 d3 d4;go_loopw [5,11] (fun n s wr=>∃ k:Nat,s=.int .i64 k∧n=.int .i64 (zi6 (es.take k) x)∧k≤es.length∧Hid (Below W1.heap.size W1 wr)) (fun _ s _=>es.length - (intOf s).toNat)
 case atStart=>exact⟨0,rfl,by rw[List.take_zero];rfl,Nat.zero_le _,Below.refl _ _⟩
 case round =>
  obtain⟨k,rfl,rfl,hk,HI⟩:=hrel;by_cases hlt:k<es.length
  ·obtain⟨ad,rfl,hab,hld⟩:=z47.at_ (HE.out.below (z0r Hb0.out HI.out)) hlt;have HN:=hd_ (zi8 es x k hlt);have hle:=zi9 es x k;generalize es[k]=y at hld HN;obtain⟨x0,x1,x2,x3,x4,x5,x6,x7,x8,x9,x10,x11⟩:=hld;have hY:=z0l wr [.string y.path,.int .i64 y.act,.int .i64 y.ty.base,.bool y.ty.k,.bool y.ty.l,.bool y.ty.x,.int .u64 y.sum,.int .i64 y.size,.int .i64 y.base,.string y.frm,.int .i64 y.fnum,.int .i64 y.fence] 90;have hA1:=HI.out.alloc HI.out.size (.cells #[.string y.path,.int .i64 y.act,.int .i64 y.ty.base,.bool y.ty.k,.bool y.ty.l,.bool y.ty.x,.int .u64 y.sum,.int .i64 y.size,.int .i64 y.base,.string y.frm,.int .i64 y.fnum,.int .i64 y.fence] 90);go_upto_region 5 with fail;clear x0 x1 x2 x3 x4 x5 x6 x7 x8 x9 x10 x11;generalize wr.alloc (.cells #[.string y.path,.int .i64 y.act,.int .i64 y.ty.base,.bool y.ty.k,.bool y.ty.l,.bool y.ty.x,.int .u64 y.sum,.int .i64 y.size,.int .i64 y.base,.string y.frm,.int .i64 y.fnum,.int .i64 y.fence] 90)=V1 at hY hA1 ⊢;generalize wr.heap.size=g7 at hY ⊢;have HA1:=hd_ hA1;have HY:=hd_ hY;clear hY hA1;refine movedR5 _ (by kernel_rfl) _ (w.heap.size+1) g7 x y V1 (HV.out.below HA1.out HV.out.lt) HY.out ?_
   intro el em en eo er et eu ez eA eB eC eD eE eF eG eH eI eJ eK eL eM eN eO eP eQ eR eS eT eU eV eW;cases hm:mvB x y
   ·rw[hm] at HN;clear hm;go_wp2_with fail;go_roundw
    case rel=>exact⟨k+1,by go_num,by rw[HN.out];simp,by omega,HA1.out⟩
    case measure=>simp [intOf];omega
   ·rw[hm] at HN;clear hm;go_wp2_with fail;go_roundw
    case rel=>exact⟨k+1,by go_num,by rw[HN.out];simp,by omega,HA1.out⟩
    case measure=>simp [intOf];omega
  ·have hke:k=es.length:=by omega
   subst hke;obtain⟨a0,a1,a2,a3,a4,a5,a6,a7,a8,a9,a10,a11⟩:=z7z (HV.out.below HI.out HV.out.lt);have HMB:Hid (zi7 es x=(decide (zi6 es x=1) || (decide (x.act≠5) && decide (x.act≠4)))):=hd_ rfl;have HB:=hd_ (z0r Hb0.out HI.out);rw[List.take_length];generalize zi6 es x=m at HMB ⊢;by_cases h1:m=1
   ·have HV:Hid (zi7 es x=true):=hd_ (by rw[HMB.out];simp [h1])
    subst h1;go_wp2_with fail;go_ret;exact⟨z0w HV.out.symm,HB.out⟩
   ·have q1:((m:Int) == 1)=false:=by simp;omega
    by_cases h5:x.act=5
    ·have q5:(x.act != 5)=false:=by simpa using h5
     have HV:Hid (zi7 es x=false):=hd_ (by rw[HMB.out];simp [h1,h5])
     clear h1 h5;go_wp2_with fail;go_ret;exact⟨z0w HV.out.symm,HB.out⟩
    ·have q5:(x.act != 5)=true:=by simpa using h5
     by_cases h4:x.act=4
     ·have q4:(x.act != 4)=false:=by simpa using h4
      have HV:Hid (zi7 es x=false):=hd_ (by rw[HMB.out];simp [h1,h5,h4])
      clear h1 h5 h4;go_wp2_with fail;go_ret;exact⟨z0w HV.out.symm,HB.out⟩
     ·have q4:(x.act != 4)=true:=by simpa using h4
      have HV:Hid (zi7 es x=true):=hd_ (by rw[HMB.out];simp [h1,h5,h4])
      clear h1 h5 h4;go_wp2_with fail;go_ret;exact⟨z0w HV.out.symm,HB.out⟩
end
open Go.Sort (grow)
section
variable {u0 u1 u2 u3 u4 u5 u6 u7 u8 u9 gn gt gu gx gy gz gA gC gD gE gF gG gH gI gJ gK gL gM gN gO : Value}
theorem zm4 {P:Program}{w:World}{t e:TypeId}{size n c hi:Nat}{A:Option Addr}{xs:List Value}(ht:P.underlying t=some (.slice e))(hs:∀ w,(sizeOf e).run P w=.ok size w)
  (h:Row w size (.slice A n c) n xs) (h2:hi≤n):
  ∃ A' c',(∀ X,(Instr.sliceAt t (.slice A n c) none (some (.int .i64 hi)) none).run P X=.ok (.slice A' hi c') X)∧∀ W:World,Row W size (.slice A n c) n xs→Row W size (.slice A' hi c') hi (xs.take (hi * size)):=by
 have hc:n≤c:=by obtain⟨A',c',e,hc,_⟩:=id h;injection e with e1 e2 e3;omega
 have he:P.elem t=e:=by simp [Program.elem,ht]
 have ht':P.underlying t=some (.slice (P.elem t)):=by rw[he];exact ht
 have hr:∀ W:World,Row W size (.slice A n c) n xs→Row W size (.slice (if c=0 then A else A.map (·.add 0)) hi c) hi (xs.take (hi * size)):=fun W hW=>by
  have hr:=Row.slice hW (Nat.zero_le hi) h2;simp only[Nat.zero_mul,List.drop_zero,Nat.sub_zero] at hr
  exact hr
 refine⟨_,_,fun X=>?_,hr⟩
 ·rw[run_sliceAt_slice X t _ _ _ _ ht',run_slice_h X t A n c ht' _ _ (by omega) (by omega),he,hs]
  simp [Result.andThen,sliced]
theorem zm5 {P:Program}{w:World}{t e:TypeId}{size n c lo:Nat}{A:Option Addr}{xs:List Value}(ht:P.underlying t=some (.slice e))(hs:∀ w,(sizeOf e).run P w=.ok size w)
  (h:Row w size (.slice A n c) n xs) (h1:lo≤n):
  ∃ A' c',(∀ X,(Instr.sliceAt t (.slice A n c) (some (.int .i64 lo)) none none).run P X=.ok (.slice A' (n - lo) c') X)∧∀ W:World,Row W size (.slice A n c) n xs→Row W size (.slice A' (n - lo) c') (n - lo) (xs.drop (lo * size)):=by
 have he:P.elem t=e:=by simp [Program.elem,ht]
 have ht':P.underlying t=some (.slice (P.elem t)):=by rw[he];exact ht
 have hr:∀ W:World,Row W size (.slice A n c) n xs→Row W size (.slice (if c=lo then A else A.map (·.add (lo * size))) (n - lo) (c - lo)) (n - lo) (xs.drop (lo * size)):=fun W hW=>by
  have hr:=Row.slice hW h1 (Nat.le_refl _);rw[List.take_of_length_le (by rw[List.length_drop,h.len,← Nat.sub_mul];exact Nat.le_refl _)] at hr
  exact hr
 refine⟨_,_,fun X=>?_,hr⟩
 ·rw[run_sliceAt_slice X t _ _ _ _ ht',run_slice_l X t A n c ht' _ _ (by omega) (by omega),he,hs]
  simp [Result.andThen,sliced]
theorem zm6 (l:List Hav):∀ v∈l.flatMap Hav.cells,v.oneCell'=true:=by
 intro v hv;obtain⟨x,-,hx⟩:=List.mem_flatMap.1 hv;exact z55 x v hx
theorem zm7 (l:List Hav)(i:Nat):(l.flatMap Hav.cells).take (i * 3)=(l.take i).flatMap Hav.cells:=by
 induction l generalizing i with
 | nil=>simp
 | cons x l ih =>
  cases i with
  | zero=>simp
  | succ i =>
   have e:(i+1) * 3=3+i * 3:=by omega
   rw[List.take_succ_cons,List.flatMap_cons,List.flatMap_cons,← ih,e];exact List.take_length_add_append (l₁:=x.cells) (i * 3)
theorem zm8 (l:List Hav)(i:Nat):(l.flatMap Hav.cells).drop (i * 3)=(l.drop i).flatMap Hav.cells:=by
 induction l generalizing i with
 | nil=>simp
 | cons x l ih =>
  cases i with
  | zero=>simp
  | succ i =>
   have e:(i+1) * 3=3+i * 3:=by omega
   rw[List.drop_succ_cons,List.flatMap_cons,← ih,e];exact List.drop_length_add_append (l₁:=x.cells) (i * 3)
theorem zm9 {w w':World}{v:Value}(hG:w.grownBy w' v.ownBlock)(hv:v.ownBlock=none):Below w.heap.size w w':=⟨hG.os,hG.tape,hG.output,hG.size,fun k hk=>hG.block k hk (by rw[hv];simp)⟩
theorem puR2 (ops:Array Oper)(hops:Tryz.f97.body.bind (zci 2)=some ops)(Q:Exit→Act→World→Prop)(V:World)(A:Option Addr)(c g3 i:Nat)(l:List Hav)(h:Hav)
  (hH:z4b V (.slice A l.length c) l) (hB:Blk V g3 44 [.string h.path,.int .i64 h.num,.string h.loc]) (hi:i≤l.length) (hl:l.length≤1000000)
  (hQ:∀(el em en eo er et eu:Value) (A':Option Addr) (c':Nat) (w':World),Hid (Below V.heap.size V w'∧w'.ownsRow V.heap.size 44 3 (.slice A' (i+1) c') (i+1) ((l.take i++[h]).flatMap Hav.cells))→Q .normal ⟨#[.slice A l.length c,u1,u2,.pointer (some ⟨g3,0,none⟩),u4,.int .i64 i,u6,.slice A' (i+1) c',u8,u9,gn,gt,gu,gx,gy,el,em,en,eo,er,et,eu,gH,gI,gJ,gK,gL,gM,gN,gO],[]⟩ w'):
  (Code.region 2 ops true).wp prog Q ⟨#[.slice A l.length c,u1,u2,.pointer (some ⟨g3,0,none⟩),u4,.int .i64 i,u6,u7,u8,u9,gn,gt,gu,gx,gy,gz,gA,gC,gD,gE,gF,gG,gH,gI,gJ,gK,gL,gM,gN,gO],[]⟩ V:=by
 simp only[Tryz.f97,Option.bind_some,zci] at hops
 simp at hops
 subst hops;obtain⟨Ai,ci,hsl,hrw⟩:=zm4 (P:=prog) (w:=V) underlying28 zio hH hi;have HQ:=hd_ hQ;have HROW:Hid (∀ W,Below V.heap.size V W→Row W 3 (.slice Ai i ci) i ((l.take i).flatMap Hav.cells)):=hd_ fun W hW=>by rw[← zm7];exact hrw W (z4b.under hH hW)
 have HONE:Hid (∀ v∈(l.take i).flatMap Hav.cells,v.oneCell'=true):=hd_ (zm6 _);have HF:Hid (∀ w',Below V.heap.size V w'→w'.cell? ⟨g3,0,none⟩=some (.string h.path)∧w'.cell? ⟨g3,1,none⟩=some (.int .i64 h.num)∧w'.cell? ⟨g3,2,none⟩=some (.string h.loc)):=hd_ fun w' hb=>z3s (hB.below hb hB.lt);have HCAT:Hid ((l.take i).flatMap Hav.cells++[.string h.path,.int .i64 h.num,.string h.loc]=(l.take i++[h]).flatMap Hav.cells):=hd_ (by rw[List.flatMap_append];rfl)
 clear hQ hH hB hrw;obtain⟨f0,f1,f2⟩:=HF.out V (Below.refl _ _);refine wp_region_noPanic ?_;go_region_law (first
   | (refine zce (base:=V.heap.size) (n:=0) (xs:=[]) rfl rfl z54 (World.ownsRow_nil _ _ _ _) (by simp [Act.eval,Act.put];done) (HROW.out _ (Below.refl _ _).drew) (by simp [Act.eval,Act.put];done) HONE.out (by omega) (by unfold maxLen;omega) (by simp) ?_;intro A5 c5 w5 hO5 hG5 hw5;have hX5:=zm9 hG5 rfl;have hS5:Below V.heap.size V w5:=(Below.refl _ _).drew.trans hX5;obtain⟨f5,f6,f7⟩:=HF.out w5 hS5;rw[Nat.zero_add,List.nil_append] at hO5)
   | (refine zce (base:=V.heap.size) (n:=0) (xs:=[]) rfl rfl z54 (World.ownsRow_nil _ _ _ _) (by simp [Act.eval,Act.put];done) (HROW.out _ (by first | exact zcf (Below.refl _ _).drew _ | exact (zcf (Below.refl _ _) _).drew)) (by simp [Act.eval,Act.put];done) HONE.out (by omega) (by unfold maxLen;omega) (Below.size (by first | exact zcf (Below.refl _ _).drew _ | exact (zcf (Below.refl _ _) _).drew)) ?_;intro A5 c5 w5 hO5 hG5 hw5;have hX5:=zm9 hG5 rfl;have hS5:Below V.heap.size V w5:=z0r (by first | exact zcf (Below.refl _ _).drew _ | exact (zcf (Below.refl _ _) _).drew) hX5;have hQ5:Blk w5 V.heap.size 44 [.string h.path,.int .i64 h.num,.string h.loc]:=Blk.below' (by first | exact z0l V.drew _ _ | exact Blk.drew' (z0l V _ _)) hX5;rw[Nat.zero_add,List.nil_append] at hO5)
   | (refine zce rfl rfl z54 (z0n hO5 ((Below.refl _ _).alloc (Nat.le_refl _) _)) (by simp [Act.eval,Act.put];done) (z0i w5 [.string h.path,.int .i64 h.num,.string h.loc] _ 3 1 rfl (by decide) _ rfl) (by simp [Act.eval,Act.put];done) (by simp [Value.oneCell']) (by omega) (by unfold maxLen;omega) (by have:=hS5.size;simp;omega) ?_;intro A6 c6 w6 hO6 hG6 hw6;have hS6:Below V.heap.size V w6:=(hS5.alloc hS5.size _).grown hG6 (hS5.alloc hS5.size _).size (fun k e=>(hO5.lt k e).1))
   | (refine zce rfl rfl z54 hO5 (by simp [Act.eval,Act.put];done) (hQ5.row (size:=3) (n:=1) rfl (by decide)) (by simp [Act.eval,Act.put];done) (by simp [Value.oneCell']) (by omega) (by unfold maxLen;omega) hS5.size ?_;intro A6 c6 w6 hO6 hG6 hw6;have hS6:Below V.heap.size V w6:=hS5.grown hG6 hS5.size (fun k e=>(hO5.lt k e).1)))
 all_goals exact NoPanic.normal (HQ.out _ _ _ _ _ _ _ _ _ _ (hd_ ⟨hS6,by rw[← HCAT.out];exact hO6⟩))
end
theorem zo8 (p:Pat)(b:Bool)(hbr:p.rest=b)(A:Option Addr)(c:Nat)(w:World)(hp:za9 w (.slice A p.parts.length c) p)(h0:z7e p=0):
  Calls prog 245 #[.agg #[.slice A p.parts.length c,.bool b]] w fun e w'=>e=.returned (.int .i64 ((za2 p+(if b then 1 else 0):Nat):Int))∧Below w.heap.size w w':=by
 have hA:Below w.heap.size w (w.alloc (.cells #[.slice A p.parts.length c,.bool b] 97)):=(Below.refl _ _).alloc (Nat.le_refl _) _;have h2:zbo (w.alloc (.cells #[.slice A p.parts.length c,.bool b] 97)) w.heap.size (.slice A p.parts.length c) b:=z0l w [.slice A p.parts.length c,.bool b] 97;have HK:Hid (Calls prog 182 #[.agg #[.slice A p.parts.length c,.bool b]] (w.alloc (.cells #[.slice A p.parts.length c,.bool b] 97)) fun e w'=>e=.returned (.tuple #[.int .i64 (za2 p),.bool b])∧Below (w.alloc (.cells #[.slice A p.parts.length c,.bool b] 97)).heap.size (w.alloc (.cells #[.slice A p.parts.length c,.bool b] 97)) w'):=hd_ (by
  have:=zni p A c _ (hp.below hA) h0;unfold znh at this;rw[hbr] at this;exact this)
 have HA:=hd_ hA;have hs12:za2 p≤12:=Nat.le_trans (List.length_filter_le ..) (zao h0);have x0:=h2.c0;have x1:=h2.c1;clear hp hbr h0 hA h2;go_enter func245,ntmps245;cases b
 all_goals
  go_wp2_with fail;refine HK.out.mono ?_;rintro e w2 ⟨rfl,hb⟩;dsimp only;have HB:=hd_ (z0r HA.out hb);clear hb x0 x1;go_wp2_with fail;go_ret;exact⟨by simp,HB.out⟩
structure RfSt (w2 wr:World)(parts caps:List ByteArray)(k:Nat)(done:List ByteArray)(av:Value):Prop where
 low:Below w2.heap.size w2 wr
 own:wr.ownsRow w2.heap.size 9 1 av k (done.map .string)
 len:done.length=k
 is:done++zbs (parts.drop k) (caps.drop (za1 parts k))=zbs parts caps
theorem RfSt.plain {w2 wr wy:World}{parts caps:List ByteArray}{k:Nat}{done:List ByteArray}{av av':Value}(h:RfSt w2 wr parts caps k done av)(hk:k<parts.length)(hs:z79 parts[k]=false)(hl:Below w2.heap.size w2 wy)(ho:wy.ownsRow w2.heap.size 9 1 av' (k+1) ((done++[parts[k]]).map .string)):
  RfSt w2 wy parts caps (k+1) (done++[parts[k]]) av':=by
 have e:za1 parts (k+1)=za1 parts k:=by rw[za3 hk,hs];rfl
 refine⟨hl,ho,by rw[List.length_append,h.len];rfl,?_⟩
 rw[e,← h.is,List.drop_eq_getElem_cons hk];conv=>rhs;unfold zbs
 rw[hs];simp
theorem RfSt.star {w2 wr wy:World}{parts caps:List ByteArray}{k:Nat}{done r:List ByteArray}{c:ByteArray}{av av':Value}(h:RfSt w2 wr parts caps k done av)(hk:k<parts.length)(hs:z79 parts[k]=true)(hr:caps.drop (za1 parts k)=c :: r)(hl:Below w2.heap.size w2 wy)(ho:wy.ownsRow w2.heap.size 9 1 av' (k+1) ((done++[c++z80 parts[k]]).map .string)):
  RfSt w2 wy parts caps (k+1) (done++[c++z80 parts[k]]) av':=by
 have e:za1 parts (k+1)=za1 parts k+1:=by rw[za3 hk,hs];rfl
 have e2:caps.drop (za1 parts (k+1))=r:=by rw[e,← List.drop_drop,hr];rfl
 refine⟨hl,ho,by rw[List.length_append,h.len];rfl,?_⟩
 rw[e2,← h.is,List.drop_eq_getElem_cons hk,hr];conv=>rhs;unfold zbs
 rw[hs];simp
theorem zo9 {w W w':World}{row:Option Nat}(h:Below w.heap.size w W)(hg:W.grownBy w' row)(hr:∀ k,row=some k→w.heap.size≤k):Below w.heap.size w w':=
 ⟨hg.os.trans h.os,hg.tape.trans h.tape,hg.output.trans h.output,Nat.le_trans h.size hg.size,fun k hk=>(hg.block k (Nat.lt_of_lt_of_le hk h.size) (fun e=>by have:=hr k e.symm;omega)).trans (h.block k hk)⟩
theorem zoa (xs ys zs:List (List UInt8))(h1:ys≠[])(h2:zs≠[])(h:Lib.join ys [47]=Lib.join zs [47]):Lib.join (xs++ys) [47]=Lib.join (xs++zs) [47]:=by
 induction xs with
 | nil=>exact h
 | cons x xs ih =>
  rw[List.cons_append,List.cons_append,z1h x (xs++ys) (by simp [h1]),z1h x (xs++zs) (by simp [h2]),ih]
theorem zob (xs:List (List UInt8))(l:List UInt8):Lib.join (xs++z1a l) [47]=Lib.join (xs++[l]) [47]:=
 zoa xs _ _ (z1b l) (by simp) (by rw[z1i];simp [Lib.join])
def SbV:Value→Bool
 | .string _=>true
 | .bool _=>true
 | _=>false
def zos (w:World)(g:Nat):Prop:=∀(off:Nat) u,w.cell? ⟨g,off,none⟩=some u→SbV u=false
theorem zot {w:World}{ad:Addr}{u:Value}(h:w.cell? ad=some u):w.cell? ⟨ad.block,ad.off,none⟩=some u:=by
 obtain⟨b,o,s⟩:=ad;cases s with
 | none=>exact h
 | some k =>
  unfold World.cell? at h
  split at h
  ·simp at h
  ·cases h
theorem Row.keptN {S:List Nat}{w w':World}{size n:Nat}{v:Value}{xs:List Value}(h:Row w size v n xs)(hK:z6t S w w')(hS:∀ g∈S,zos w g)(hx:0<n→∃(j:Nat) (u:Value),xs[j]? = some u∧SbV u=true):Row w' size v n xs:=by
 obtain⟨A,c,rfl,hc,hm,hl,h0,hr⟩:=id h;rcases Nat.eq_zero_or_pos n with hn | hn
 ·exact⟨A,c,rfl,hc,hm,hl,h0,fun hp=>by omega⟩
 ·obtain⟨ad,rfl,hb,hcell⟩:=hr hn;refine Row.kept h hK fun hmem=>?_;obtain⟨j,u,hj,hu⟩:=hx hn;have h1:=zot (hcell j u hj);rw[z00] at h1;rw[hS _ hmem _ _ h1] at hu;cases hu
theorem Strs.keptN {S:List Nat}{w w':World}{v:Value}{l:List ByteArray}(h:Strs w v l)(hK:z6t S w w')(hS:∀ g∈S,zos w g):Strs w' v l:=
 Row.keptN h hK hS fun hn=>⟨0,.string (l[0]'hn),by rw[List.getElem?_map,List.getElem?_eq_getElem hn];rfl,rfl⟩
theorem za9.keptN {S:List Nat}{w w':World}{v:Value}{p:Pat}(h:za9 w v p)(hK:z6t S w w')(hS:∀ g∈S,zos w g):za9 w' v p:=⟨h.1.keptN hK hS,h.2⟩
theorem zd2.keptN {S:List Nat}{w w':World}{v:Value}{hs:List zd1}(h:zd2 w v hs)(hK:z6t S w w')(hS:∀ g∈S,zos w g):zd2 w' v hs:=
 ⟨Row.keptN h.1 hK hS fun hn=>⟨1,.bool (hs[0]'hn).1.rest,by
  cases hs with
  | nil=>simp at hn
  | cons q hs=>rfl,rfl⟩,fun q hq=>(h.2 q hq).keptN hK hS⟩
theorem zdi.keptN {S:List Nat}{w w':World}{v:Value}{es:List zd8}(h:zdi w v es)(hK:z6t S w w')(hS:∀ g∈S,zos w g):zdi w' v es:=
 ⟨Row.keptN h.1 hK hS fun hn=>⟨1,.bool (es[0]'hn).l.1.rest,by
  cases es with
  | nil=>simp at hn
  | cons q hs=>rfl,rfl⟩,fun x hx=>⟨(h.2 x hx).l.keptN hK hS,(h.2 x hx).r.keptN hK hS,(h.2 x hx).h.keptN hK hS,(h.2 x hx).n⟩⟩
theorem z45.keptN {S:List Nat}{w w':World}{v:Value}{D:List Rev}(h:z45 w v D)(hK:z6t S w w')(hS:∀ g∈S,zos w g):z45 w' v D:=
 Row.keptN h hK hS fun hn=>⟨0,.string (D[0]'hn).path,by
  cases D with
  | nil=>simp at hn
  | cons q hs=>rfl,rfl⟩
theorem z4b.keptN {S:List Nat}{w w':World}{v:Value}{l:List Hav}(h:z4b w v l)(hK:z6t S w w')(hS:∀ g∈S,zos w g):z4b w' v l:=
 Row.keptN h hK hS fun hn=>⟨0,.string (l[0]'hn).path,by
  cases l with
  | nil=>simp at hn
  | cons q hs=>rfl,rfl⟩
theorem zos.blk {w:World}{g:Nat}{e:TypeId}{cs:List Value}(h:Blk w g e cs)(hc:∀ u∈cs,SbV u=false):zos w g:=fun off u hu=>by
 rw[h.cell off] at hu;exact hc u (List.mem_of_getElem? hu)
theorem zgf.nosb {w:World}{U g m:Nat}(h:zgf w U g m):∀ x∈[g],zos w x:=by
 obtain⟨l,A,c,a,h1,-⟩:=h;intro x hx;rw[List.mem_singleton] at hx;subst hx;exact zos.blk h1 (by simp [SbV])
structure Cnk where
 s:Int
 z:Int
 A:Option Addr
 n:Nat
 c:Nat
def Cnk.cells (x:Cnk):List Value:=[.int .u64 x.s,.int .i64 x.z,.slice x.A x.n x.c]
theorem cnkElem:z0e prog 73 207 3 40:=z0f underlying73 (z:=.agg #[.int .u64 0,.int .i64 0,.slice none 0 0]) (by kernel_rfl) rfl (by decide)
theorem eql_cid (a b c d:Int)(W:World):(binOp .eql 64 (.agg #[.int .u64 a,.int .i64 b]) (.agg #[.int .u64 c,.int .i64 d])).run prog W=.ok (.bool (decide (a=c) && decide (b=d))) W:=by
 rw[run_eql_struct,run_equalIn_agg W 9999 64 _ _ (by kernel_rfl) (by kernel_rfl)]
 simp [go_sem,Op.eqFields]
 by_cases h1:a=c <;> by_cases h2:b=d <;> simp [h1,h2]
structure WsB (w wr:World)(U g gw m:Nat)(D:List Rev)(dv dr cv:Value)(l:List Cnk):Prop where
 kept:z6t [g] w wr
 tape:zgf wr U g m
 box:Blk wr gw 75 [dv,dr,cv]
 cnk:wr.ownsRow (gw+1) 207 3 cv l.length (l.flatMap Cnk.cells)
 revs:z45 wr dv D
 gU:g<U
 UU:U≤w.heap.size
 le:w.heap.size≤gw
 far:∀ x,dv.ownBlock=some x→x≠gw∧x<wr.heap.size∧cv.ownBlock≠some x
theorem Row.heap {w w':World}{size n:Nat}{v:Value}{xs:List Value}(h:Row w size v n xs)(hs:w.heap.size≤w'.heap.size)(hk:∀ x,x<w.heap.size→v.ownBlock=some x→w'.heap[x]? = w.heap[x]?):Row w' size v n xs:=by
 obtain⟨A,c,rfl,hc,hm,hl,h0,hr⟩:=h;refine⟨A,c,rfl,hc,hm,hl,h0,fun hn=>?_⟩;obtain⟨ad,rfl,hb,hcell⟩:=hr hn;refine⟨ad,rfl,by omega,fun j u hu=>?_⟩
 rw[← hcell j u hu];refine World.cell?_of_block ?_;rw[z00];exact hk _ hb rfl
section
variable {w wr w' : World} {U g gw m m' : Nat} {D : List Rev} {dv dr cv : Value} {l : List Cnk}
theorem WsB.next (h:WsB w wr U g gw m D dv dr cv l)(hK:z6t [g] wr w')(hT:zgf w' U g m'):WsB w w' U g gw m' D dv dr cv l:=by
 have h1:=h.gU;have h2:=h.UU;have h3:=h.le;refine⟨h.kept.trans hK,hT,hK.blk h.box (by simp;omega),zlh h.cnk hK (fun x hx=>by have:=(h.cnk.lt x hx).1;simp;omega),z45.keptN h.revs hK h.tape.nosb,h1,h2,h3,fun x hx=>⟨(h.far x hx).1,Nat.lt_of_lt_of_le (h.far x hx).2.1 hK.size,(h.far x hx).2.2⟩⟩
theorem WsB.under (h:WsB w wr U g gw m D dv dr cv l)(hb:Below wr.heap.size wr w'):WsB w w' U g gw m D dv dr cv l:=h.next (z6t.below hb) (h.tape.below hb)
theorem WsB.turn {w5:World}{cv':Value}{l':List Cnk}(h:WsB w wr U g gw m D dv dr cv l)(hg:wr.grownBy w5 cv.ownBlock)(ho:w5.ownsRow (gw+1) 207 3 cv' l'.length (l'.flatMap Cnk.cells))(hob:cv'.ownBlock=cv.ownBlock∨cv'.ownBlock=some wr.heap.size):
  WsB w (w5.setCell ⟨gw,2,none⟩ cv') U g gw m D dv dr cv' l':=by
 have h1:=h.gU;have h2:=h.UU;have h3:=h.le;have hbl:=h.box.lt;have hlt:=h.cnk.lt;have hne:some gw≠cv.ownBlock:=fun e=>by have:=(hlt gw e.symm).1;omega
 have hne':cv'.ownBlock≠some gw:=by
  rcases hob with e | e
  ·rw[e];exact fun e=>hne e.symm
  ·rw[e];intro e2;injection e2 with e2;omega
 have hk:z6t [g] w w5:=h.kept.grown_own hg (fun x e=>by have:=(hlt x e).1;omega)
 have hb5:Below w.heap.size w5 (w5.setCell ⟨gw,2,none⟩ cv'):=(Below.refl _ _).setCell (p:=⟨gw,2,none⟩) h3 _;have ht5:zgf w5 U g m:=h.tape.keep hg.size (fun x hx=>hg.block x (by have:=h.kept.size;omega) (fun e=>by have:=(hlt x e.symm).1;omega))
 refine⟨hk.onto hb5,ht5.onto h2 hb5,(h.box.grown hg hne).set_ 2 cv',z4r ho (p:=⟨gw,2,none⟩) hne' _,?_,h1,h2,h3,fun x hx=>⟨(h.far x hx).1,Nat.lt_of_lt_of_le (h.far x hx).2.1 (Nat.le_trans hg.size hb5.size),?_⟩⟩
 ·have hr5:z45 w5 dv D:=Row.heap h.revs hg.size (fun x hx e=>hg.block x hx (fun e2=>(h.far x e).2.2 e2.symm));exact Row.set_far hr5 (fun e=>(h.far gw e).1 rfl)
 ·rcases hob with e | e
  ·rw[e];exact (h.far x hx).2.2
  ·rw[e];intro e2;injection e2 with e2;have:=(h.far x hx).2.1;omega
def FdPost (w:World)(e:Ending)(w':World):Prop:=(∃(A:Option Addr) (n c:Nat) (b:Bool),e=.returned (.tuple #[.slice A n c,.bool b]))∧Below w.heap.size w w'
theorem Cnk.at_ {w:World}{B:Nat}{A:Option Addr}{c:Nat}{l:List Cnk}(h:w.ownsRow B 207 3 (.slice A l.length c) l.length (l.flatMap Cnk.cells)){k:Nat}(hk:k<l.length):
  ∃ ad,A=some ad∧w.cell? (ad.add (k * 3))=some (.int .u64 l[k].s)∧w.cell? ⟨(ad.add (k * 3)).block,(ad.add (k * 3)).off+1,none⟩=some (.int .i64 l[k].z)∧w.cell? ⟨(ad.add (k * 3)).block,(ad.add (k * 3)).off+2,none⟩=some (.slice l[k].A l[k].n l[k].c):=by
 obtain⟨ad,e,hb,hc⟩:=z49 (f:=Cnk.cells) (n:=3) (fun _=>rfl) (Row.of_own h) hk;exact⟨ad,e,hc 0 _ rfl,hc 1 _ rfl,hc 2 _ rfl⟩
theorem zp9 (h:WsB w wr U g gw m D dv dr cv l)(s z:Int)(hl:l.length≤1000000):
  Calls prog 133 #[.pointer (some ⟨gw,0,none⟩),.agg #[.int .u64 s,.int .i64 z]] wr (FdPost wr):=by
 obtain⟨A,c,rfl⟩:=z0o h.cnk;have hA:Below wr.heap.size wr (wr.alloc (.cells #[.int .u64 s,.int .i64 z] 64)):=(Below.refl _ _).alloc (Nat.le_refl _) _;have HX:=hd_ (z0l wr [.int .u64 s,.int .i64 z] 64);have HB:=hd_ h.box;have HC:=hd_ h.cnk;have HA:=hd_ hA;clear h hA;go_enter func133,ntmps133;go_upto_region 1 with fail;generalize wr.alloc (.cells #[.int .u64 s,.int .i64 z] 64)=W1 at HX HA ⊢;generalize wr.heap.size=g3 at HX ⊢;go_wp2_with fail;go_loopw [6] (fun i wx=>∃ k:Nat,i=.int .i64 k∧k≤l.length∧Hid (Below W1.heap.size W1 wx)) (fun i _=>l.length - (intOf i).toNat)
 case atStart=>exact⟨0,rfl,Nat.zero_le _,hd_ (Below.refl _ _)⟩
 case round =>
  obtain⟨k,rfl,hk,HI⟩:=hrel;have HBX:=hd_ (z0r HA.out HI.out);have hb2:=(HB.out.below HBX.out HB.out.lt).cell 2;have b2:wr.cell? ⟨gw,2,none⟩=some (.slice A l.length c):=hb2;clear hb2;by_cases hlt:k<l.length
  ·obtain⟨ad,rfl,c0,c1,c2⟩:=Cnk.at_ (z0n HC.out HBX.out) hlt;have hX:=HX.out.below HI.out HX.out.lt;have x0:wr.cell? ⟨g3,0,none⟩=some (.int .u64 s):=hX.cell 0;have x1:wr.cell? ⟨g3,1,none⟩=some (.int .i64 z):=hX.cell 1;generalize l[k]=y at c0 c1 c2;obtain⟨s',z',A',n',c'⟩:=y;dsimp only at c0 c1 c2
   have heq:=eql_cid s' z' s z;generalize (decide (s'=s) && decide (z'=z))=b at heq;have hzk:(k:Int)<(l.length:Int):=by omega
   have HLT:=hd_ hlt;clear hX hlt;go_upto_region 4 with fail;go_quiet (fail)
   clear heq;cases b with
   | true =>
    go_wp2_with fail;go_ret2;exact⟨⟨_,_,_,_,rfl⟩,z0p HBX.out _⟩
   | false =>
    go_wp2_with fail;go_roundw
    case rel=>exact⟨k+1,by go_num,by have:=HLT.out;omega,hd_ (z0p HI.out _)⟩
    case measure=>have:=HLT.out;simp [intOf];omega
  ·have hke:k=l.length:=by omega
   subst hke;have hge:¬((l.length:Int)<(l.length:Int)):=by omega
   go_wp2_with fail;go_ret2;exact⟨⟨none,0,0,false,rfl⟩,HBX.out⟩
end
end Go.Proofs.YtegeboijhifmcaaGreatDoor
