/- Light: out of the text of this name in wip/hi. -/
import Derived.Test.YtegeboijhifmcaaGreatDoorMgw15
import Derived.Test.YtegeboijhifmcaaGreatDoorMgw24
import Derived.Test.YtegeboijhifmcaaGreatDoorMgw19
import Derived.Test.YtegeboijhifmcaaGreatDoorMgw16
import Derived.Test.YtegeboijhifmcaaGreatDoorMgw6
import Derived.Test.YtegeboijhifmcaaGreatDoorMgw20
import Derived.Test.YtegeboijhifmcaaGreatDoorMgw18
import Derived.Test.YtegeboijhifmcaaGreatDoorMgw22
import Derived.Test.YtegeboijhifmcaaGreatDoorMzBlD
import Derived.Test.YtegeboijhifmcaaGreatDoorMgw9
import Derived.Test.YtegeboijhifmcaaGreatDoorMgw3
import Derived.Test.YtegeboijhifmcaaGreatDoorMgw10
import Derived.Test.YtegeboijhifmcaaGreatDoorMgw11
import Derived.Test.YtegeboijhifmcaaGreatDoorMgw17
import Derived.Deep.RegionLaw
namespace Go.Proofs.YtegeboijhifmcaaGreatDoor
set_option linter.unusedVariables false
set_option linter.unusedSimpArgs false
set_option maxHeartbeats 16000000
set_option maxRecDepth 100000
open Go.RowKit
def mvB (x y:Edt):Bool:=(decide (x.act=5) && decide (y.act=4) && decide (y.frm=x.path)) || (decide (x.act=4) && decide (y.act=5) && decide (y.path=x.frm))
theorem movedR5 (ops:Array Oper)(hops:Tryz.f127.body.bind (zci 5)=some ops)(Q:Exit→Act→World→Prop)(g3 g7:Nat)(x y:Edt)(V:World)
  (h3:Blk V g3 90 [.string x.path,.int .i64 x.act,.int .i64 x.ty.base,.bool x.ty.k,.bool x.ty.l,.bool x.ty.x,.int .u64 x.sum,.int .i64 x.size,.int .i64 x.base,.string x.frm,.int .i64 x.fnum,.int .i64 x.fence]) (h7:Blk V g7 90 [.string y.path,.int .i64 y.act,.int .i64 y.ty.base,.bool y.ty.k,.bool y.ty.l,.bool y.ty.x,.int .u64 y.sum,.int .i64 y.size,.int .i64 y.base,.string y.frm,.int .i64 y.fnum,.int .i64 y.fence])
  (u0 u1 u2 u4 u5 u6 u8 u9 gn gt gu gx gy gz gA gC gD gE gF gG gH gI gJ gK gL gM gN gO gP gQ gR gT gV gW gX gY gZ i6 i7 i8 ia ib ic ie ig ii ij ik il im io ip iq ir iu iv iw ix iy iz:Value)
  (hQ:∀(el em en eo er et eu ez eA eB eC eD eE eF eG eH eI eJ eK eL eM eN eO eP eQ eR eS eT eU eV eW:Value),Q .normal ⟨#[u0,u1,u2,.pointer (some ⟨g3,0,none⟩),u4,u5,u6,.pointer (some ⟨g7,0,none⟩),u8,u9,gn,gt,gu,gx,gy,el,em,en,eo,er,et,eu,ez,eA,eB,eC,eD,eE,eF,eG,eH,eI,eJ,eK,eL,eM,eN,eO,eP,eQ,eR,eS,eT,eU,eV,eW,.bool (mvB x y),ii,ij,ik,il,im,io,ip,iq,ir,iu,iv,iw,ix,iy,iz],[]⟩ V):
  (Code.region 5 ops false).wp Tryz.prog Q ⟨#[u0,u1,u2,.pointer (some ⟨g3,0,none⟩),u4,u5,u6,.pointer (some ⟨g7,0,none⟩),u8,u9,gn,gt,gu,gx,gy,gz,gA,gC,gD,gE,gF,gG,gH,gI,gJ,gK,gL,gM,gN,gO,gP,gQ,gR,gT,gV,gW,gX,gY,gZ,i6,i7,i8,ia,ib,ic,ie,ig,ii,ij,ik,il,im,io,ip,iq,ir,iu,iv,iw,ix,iy,iz],[]⟩ V:=by
 simp only[Tryz.f127,Option.bind_some,zci] at hops
 simp at hops
 subst hops;have HQ:=hd_ hQ;clear hQ;obtain⟨a0,a1,a2,a3,a4,a5,a6,a7,a8,a9,a10,a11⟩:=z7z h3;obtain⟨b0,b1,b2,b3,b4,b5,b6,b7,b8,b9,b10,b11⟩:=z7z h7;have HE:Hid (mvB x y=((decide (x.act=5) && decide (y.act=4) && decide (y.frm=x.path)) || (decide (x.act=4) && decide (y.act=5) && decide (y.path=x.frm)))):=hd_ rfl;by_cases c5:x.act=5
 ·have q5:(x.act == 5)=true:=by simpa using c5
  have q4:(x.act == 4)=false:=by rw[c5];rfl
  by_cases y4:y.act=4
  ·have r4:(y.act == 4)=true:=by simpa using y4
   have sq:=ze7 y.frm x.path;by_cases yp:y.frm=x.path
   ·rw[decide_eq_true yp] at sq;have e:mvB x y=true:=by rw[HE.out];simp [c5,y4,yp]
    rw[e] at HQ;clear c5 y4 yp e;go_wp2_with fail;exact HQ.out ..
   ·rw[decide_eq_false yp] at sq;have e:mvB x y=false:=by rw[HE.out];simp [c5,y4,yp]
    rw[e] at HQ;clear c5 y4 yp e;go_wp2_with fail;exact HQ.out ..
  ·have r4:(y.act == 4)=false:=by simpa using y4
   have e:mvB x y=false:=by rw[HE.out];simp [c5,y4]
   rw[e] at HQ;clear c5 y4 e;go_wp2_with fail;exact HQ.out ..
 ·have q5:(x.act == 5)=false:=by simpa using c5
  by_cases c4:x.act=4
  ·have q4:(x.act == 4)=true:=by simpa using c4
   by_cases y5:y.act=5
   ·have r5:(y.act == 5)=true:=by simpa using y5
    have sq:=ze7 y.path x.frm;by_cases yp:y.path=x.frm
    ·rw[decide_eq_true yp] at sq;have e:mvB x y=true:=by rw[HE.out];simp [c5,c4,y5,yp]
     rw[e] at HQ;clear c5 c4 y5 yp e;go_wp2_with fail;exact HQ.out ..
    ·rw[decide_eq_false yp] at sq;have e:mvB x y=false:=by rw[HE.out];simp [c5,c4,y5,yp]
     rw[e] at HQ;clear c5 c4 y5 yp e;go_wp2_with fail;exact HQ.out ..
   ·have r5:(y.act == 5)=false:=by simpa using y5
    have e:mvB x y=false:=by rw[HE.out];simp [c5,c4,y5]
    rw[e] at HQ;clear c5 c4 y5 e;go_wp2_with fail;exact HQ.out ..
  ·have q4:(x.act == 4)=false:=by simpa using c4
   have e:mvB x y=false:=by rw[HE.out];simp [c5,c4]
   rw[e] at HQ;clear c5 c4 e;go_wp2_with fail;exact HQ.out ..
theorem zi8 (es:List Edt)(x:Edt)(k:Nat)(h:k<es.length):zi6 (es.take (k+1)) x=zi6 (es.take k) x+(if mvB x es[k] then 1 else 0):=by
 unfold zi6;rw[List.take_succ_eq_append_getElem h,List.countP_append,List.countP_cons,List.countP_nil,Nat.zero_add];rfl
theorem zi9 (es:List Edt)(x:Edt)(k:Nat):zi6 (es.take k) x≤k:=by
 unfold zi6;have:=List.countP_le_length (p:=fun y:Edt=>(decide (x.act=5) && decide (y.act=4) && decide (y.frm=x.path)) || (decide (x.act=4) && decide (y.act=5) && decide (y.path=x.frm))) (l:=es.take k);rw[List.length_take] at this;omega
theorem zia (es:List Edt)(num:Int)(cl tx:ByteArray)(Ae Ac:Option Addr)(nc ce cc:Nat)(x:Edt)(w:World)(hE:z47 w (.slice Ae es.length ce) es)(hl:es.length≤100000):
  Calls Tryz.prog 127 #[.agg #[.int .i64 num,.string cl,.string tx,.slice Ae es.length ce,.slice Ac nc cc],.agg #[.string x.path,.int .i64 x.act,.int .i64 x.ty.base,.bool x.ty.k,.bool x.ty.l,.bool x.ty.x,.int .u64 x.sum,.int .i64 x.size,.int .i64 x.base,.string x.frm,.int .i64 x.fnum,.int .i64 x.fence]] w fun e w'=>e=.returned (.bool (zi7 es x))∧Below w.heap.size w w':=by
 have HE:=hd_ hE;clear hE;have hb0:Below w.heap.size w ((w.alloc (.cells #[.int .i64 num,.string cl,.string tx,.slice Ae es.length ce,.slice Ac nc cc] 95)).alloc (.cells #[.string x.path,.int .i64 x.act,.int .i64 x.ty.base,.bool x.ty.k,.bool x.ty.l,.bool x.ty.x,.int .u64 x.sum,.int .i64 x.size,.int .i64 x.base,.string x.frm,.int .i64 x.fnum,.int .i64 x.fence] 90)):=((Below.refl _ _).alloc (Nat.le_refl _) _).alloc (by simp) _
 have hV:Blk ((w.alloc (.cells #[.int .i64 num,.string cl,.string tx,.slice Ae es.length ce,.slice Ac nc cc] 95)).alloc (.cells #[.string x.path,.int .i64 x.act,.int .i64 x.ty.base,.bool x.ty.k,.bool x.ty.l,.bool x.ty.x,.int .u64 x.sum,.int .i64 x.size,.int .i64 x.base,.string x.frm,.int .i64 x.fnum,.int .i64 x.fence] 90)) (w.heap.size+1) 90 [.string x.path,.int .i64 x.act,.int .i64 x.ty.base,.bool x.ty.k,.bool x.ty.l,.bool x.ty.x,.int .u64 x.sum,.int .i64 x.size,.int .i64 x.base,.string x.frm,.int .i64 x.fnum,.int .i64 x.fence]:=by
  have h1:=z0l (w.alloc (.cells #[.int .i64 num,.string cl,.string tx,.slice Ae es.length ce,.slice Ac nc cc] 95)) [.string x.path,.int .i64 x.act,.int .i64 x.ty.base,.bool x.ty.k,.bool x.ty.l,.bool x.ty.x,.int .u64 x.sum,.int .i64 x.size,.int .i64 x.base,.string x.frm,.int .i64 x.fnum,.int .i64 x.fence] 90;simp only[World.size_alloc] at h1
  exact h1
 have hB:Blk ((w.alloc (.cells #[.int .i64 num,.string cl,.string tx,.slice Ae es.length ce,.slice Ac nc cc] 95)).alloc (.cells #[.string x.path,.int .i64 x.act,.int .i64 x.ty.base,.bool x.ty.k,.bool x.ty.l,.bool x.ty.x,.int .u64 x.sum,.int .i64 x.size,.int .i64 x.base,.string x.frm,.int .i64 x.fnum,.int .i64 x.fence] 90)) w.heap.size 95 [.int .i64 num,.string cl,.string tx,.slice Ae es.length ce,.slice Ac nc cc]:=(z0l w _ _).alloc _;go_enter Tryz.func127,Tryz.ntmps127;go_upto_region 1 with fail;generalize (w.alloc (.cells #[.int .i64 num,.string cl,.string tx,.slice Ae es.length ce,.slice Ac nc cc] 95)).alloc (.cells #[.string x.path,.int .i64 x.act,.int .i64 x.ty.base,.bool x.ty.k,.bool x.ty.l,.bool x.ty.x,.int .u64 x.sum,.int .i64 x.size,.int .i64 x.base,.string x.frm,.int .i64 x.fnum,.int .i64 x.fence] 90)=W1 at hb0 hV hB ⊢;obtain⟨d0,d1,d2,d3,d4⟩:=zhx hB;have HV:=hd_ hV;have Hb0:=hd_ hb0;clear hb0 hV hB;go_wp2_with fail;clear d0 d1 d2 d3 d4;go_loopw [5,11] (fun n s wr=>∃ k:Nat,s=.int .i64 k∧n=.int .i64 (zi6 (es.take k) x)∧k≤es.length∧Hid (Below W1.heap.size W1 wr)) (fun _ s _=>es.length - (intOf s).toNat)
 case atStart=>exact⟨0,rfl,by rw[List.take_zero];rfl,Nat.zero_le _,Below.refl _ _⟩
 case round =>
  obtain⟨k,rfl,rfl,hk,HI⟩:=hrel;by_cases hlt:k<es.length
  ·obtain⟨ad,rfl,hab,hld⟩:=z47.at_ (HE.out.below (z0r Hb0.out HI.out)) hlt;have HN:=hd_ (zi8 es x k hlt);have hle:=zi9 es x k;generalize es[k]=y at hld HN;obtain⟨x0,x1,x2,x3,x4,x5,x6,x7,x8,x9,x10,x11⟩:=hld;have hY:=z0l wr [.string y.path,.int .i64 y.act,.int .i64 y.ty.base,.bool y.ty.k,.bool y.ty.l,.bool y.ty.x,.int .u64 y.sum,.int .i64 y.size,.int .i64 y.base,.string y.frm,.int .i64 y.fnum,.int .i64 y.fence] 90;have hA1:=HI.out.alloc HI.out.size (.cells #[.string y.path,.int .i64 y.act,.int .i64 y.ty.base,.bool y.ty.k,.bool y.ty.l,.bool y.ty.x,.int .u64 y.sum,.int .i64 y.size,.int .i64 y.base,.string y.frm,.int .i64 y.fnum,.int .i64 y.fence] 90);go_upto_region 5 with fail;clear x0 x1 x2 x3 x4 x5 x6 x7 x8 x9 x10 x11;generalize wr.alloc (.cells #[.string y.path,.int .i64 y.act,.int .i64 y.ty.base,.bool y.ty.k,.bool y.ty.l,.bool y.ty.x,.int .u64 y.sum,.int .i64 y.size,.int .i64 y.base,.string y.frm,.int .i64 y.fnum,.int .i64 y.fence] 90)=V1 at hY hA1 ⊢;generalize wr.heap.size=g7 at hY ⊢;have HA1:=hd_ hA1;have HY:=hd_ hY;clear hY hA1;refine movedR5 _ (by kernel_rfl) _ (w.heap.size+1) g7 x y V1 (HV.out.below HA1.out HV.out.lt) HY.out _ _ _ _ _ _ _ _ _ _ _ _ _ _ _ _ _ _ _ _ _ _ _ _ _ _ _ _ _ _ _ _ _ _ _ _ _ _ _ _ _ _ _ _ _ _ _ _ _ _ _ _ _ _ _ _ _ _ _ _ ?_
   intro el em en eo er et eu ez eA eB eC eD eE eF eG eH eI eJ eK eL eM eN eO eP eQ eR eS eT eU eV eW;cases hm:mvB x y
   ·rw[hm] at HN;clear hm;go_wp2_with fail;go_roundw
    case rel=>exact⟨k+1,by go_num,by rw[HN.out];simp,by omega,HA1.out⟩
    case measure=>simp [intOf];omega
   ·rw[hm] at HN;clear hm;go_wp2_with fail;go_roundw
    case rel=>exact⟨k+1,by go_num,by rw[HN.out];simp,by omega,HA1.out⟩
    case measure=>simp [intOf];omega
  ·have hke:k=es.length:=by omega
   subst hke;obtain⟨a0,a1,a2,a3,a4,a5,a6,a7,a8,a9,a10,a11⟩:=z7z (HV.out.below HI.out HV.out.lt);have HMB:Hid (zi7 es x=(decide (zi6 es x=1) || (decide (x.act≠5) && decide (x.act≠4)))):=hd_ rfl;have HB:=hd_ (z0r Hb0.out HI.out);rw[List.take_length];generalize zi6 es x=m at HMB ⊢;by_cases h1:m=1
   ·have HV:Hid (zi7 es x=true):=hd_ (by rw[HMB.out];simp [h1])
    subst h1;go_wp2_with fail;go_ret;exact⟨z0w HV.out.symm,HB.out⟩
   ·have q1:((m:Int) == 1)=false:=by simp;omega
    by_cases h5:x.act=5
    ·have q5:(x.act != 5)=false:=by simpa using h5
     have HV:Hid (zi7 es x=false):=hd_ (by rw[HMB.out];simp [h1,h5])
     clear h1 h5;go_wp2_with fail;go_ret;exact⟨z0w HV.out.symm,HB.out⟩
    ·have q5:(x.act != 5)=true:=by simpa using h5
     by_cases h4:x.act=4
     ·have q4:(x.act != 4)=false:=by simpa using h4
      have HV:Hid (zi7 es x=false):=hd_ (by rw[HMB.out];simp [h1,h5,h4])
      clear h1 h5 h4;go_wp2_with fail;go_ret;exact⟨z0w HV.out.symm,HB.out⟩
     ·have q4:(x.act != 4)=true:=by simpa using h4
      have HV:Hid (zi7 es x=true):=hd_ (by rw[HMB.out];simp [h1,h5,h4])
      clear h1 h5 h4;go_wp2_with fail;go_ret;exact⟨z0w HV.out.symm,HB.out⟩
theorem zib (D:List Rev)(es:List Edt)(num:Int)(Ar Aq Ae:Option Addr)(cr cq ce:Nat)(w:World)(he:Env w)(hR:z45 w (.slice Ar D.length cr) D)(hl:D.length≤1000)(hE:z47 w (.slice Ae es.length ce) es)(hel:es.length≤6)
  (hsz:∀ e∈es,e.path.size≤2000000∧0≤e.base∧e.base≤1000000):
  Calls Tryz.prog 86 #[.agg #[.slice Ar D.length cr,.slice Aq 0 cq],.agg #[.int .i64 num,.string ⟨#[]⟩,.string ⟨#[]⟩,.slice Ae es.length ce,.slice none 0 0]] w (zi4 w):=by
 have hb0:Below w.heap.size w ((w.alloc (.cells #[.slice Ar D.length cr,.slice Aq 0 cq] 26)).alloc (.cells #[.int .i64 num,.string ⟨#[]⟩,.string ⟨#[]⟩,.slice Ae es.length ce,.slice none 0 0] 95)):=((Below.refl _ _).alloc (Nat.le_refl _) _).alloc (by simp) _
 have hC:Blk ((w.alloc (.cells #[.slice Ar D.length cr,.slice Aq 0 cq] 26)).alloc (.cells #[.int .i64 num,.string ⟨#[]⟩,.string ⟨#[]⟩,.slice Ae es.length ce,.slice none 0 0] 95)) (w.heap.size+1) 95 [.int .i64 num,.string ⟨#[]⟩,.string ⟨#[]⟩,.slice Ae es.length ce,.slice none 0 0]:=by
  have h1:=z0l (w.alloc (.cells #[.slice Ar D.length cr,.slice Aq 0 cq] 26)) [.int .i64 num,.string ⟨#[]⟩,.string ⟨#[]⟩,.slice Ae es.length ce,.slice none 0 0] 95;simp only[World.size_alloc] at h1
  exact h1
 have hD:Blk ((w.alloc (.cells #[.slice Ar D.length cr,.slice Aq 0 cq] 26)).alloc (.cells #[.int .i64 num,.string ⟨#[]⟩,.string ⟨#[]⟩,.slice Ae es.length ce,.slice none 0 0] 95)) w.heap.size 26 [.slice Ar D.length cr,.slice Aq 0 cq]:=(z0l w _ _).alloc _;have HRV:=hd_ (fun X (hX:Below w.heap.size w X)=>z45.below hR hX);have HEV:=hd_ (fun X (hX:Below w.heap.size w X)=>z47.below hE hX);have HED:=hd_ (fun(i:Nat) (hi:i<es.length) X (hX:Below w.heap.size w X)=>zi5 ⟨D,[]⟩ ⟨num,⟨#[]⟩,⟨#[]⟩,es,[]⟩ _ (.slice Aq 0 cq) Ae none ce 0 i X (he.below hX) (z45.below hR hX) (by show D.length≤100000;omega) (z47.below hE hX) hi (by show es.length≤100000;omega) hsz)
 have HMV:=hd_ (fun(x:Edt) X (hX:Below w.heap.size w X)=>zia es num ⟨#[]⟩ ⟨#[]⟩ Ae none 0 ce 0 x X (z47.below hE hX) (by omega))
 clear he hR hE hsz;go_enter Tryz.func86,Tryz.ntmps86;go_upto_region 1 with fail;generalize (w.alloc (.cells #[.slice Ar D.length cr,.slice Aq 0 cq] 26)).alloc (.cells #[.int .i64 num,.string ⟨#[]⟩,.string ⟨#[]⟩,.slice Ae es.length ce,.slice none 0 0] 95)=W1 at hb0 hC hD ⊢;have HA:=hd_ hb0;have HC:=hd_ hC;have HD:=hd_ hD;have HX:Hid (∀ X,Below W1.heap.size W1 X→(X.cell? ⟨w.heap.size,0,none⟩=some (.slice Ar D.length cr)∧X.cell? ⟨w.heap.size,1,none⟩=some (.slice Aq 0 cq))∧X.cell? ⟨w.heap.size+1,0,none⟩=some (.int .i64 num)∧X.cell? ⟨w.heap.size+1,1,none⟩=some (.string ⟨#[]⟩)∧X.cell? ⟨w.heap.size+1,2,none⟩=some (.string ⟨#[]⟩)∧X.cell? ⟨w.heap.size+1,3,none⟩=some (.slice Ae es.length ce)∧X.cell? ⟨w.heap.size+1,4,none⟩=some (.slice none 0 0)):=hd_ fun X hX=>by
  have h1:=HD.out.below hX HD.out.lt;have h2:=HC.out.below hX HC.out.lt;exact⟨⟨h1.cell 0,h1.cell 1⟩,h2.cell 0,h2.cell 1,h2.cell 2,h2.cell 3,h2.cell 4⟩
 have HRT:Hid (∀(n:Int) X,Below W1.heap.size W1 X→zi4 w (.returned (.int .i64 n)) X):=hd_ fun n X hX=>⟨⟨n,rfl⟩,z0r HA.out hX⟩;clear hb0 hC hD;obtain⟨⟨d0,d1⟩,k0,k1,k2,k3,k4⟩:=HX.out W1 (Below.refl _ _);by_cases h0:es.length=0
 ·have q0:((es.length:Int) == 0)=true:=by simpa using h0
  clear h0;go_wp2_with fail;go_ret;exact HRT.out _ _ (Below.refl _ _)
 have q0:((es.length:Int) == 0)=false:=by simpa using h0
 have q64:decide ((64:Int)<(es.length:Int))=false:=by simp;omega
 by_cases h1:num≤0
 ·have q1:decide (num≤0)=true:=by simpa using h1
  clear h1 h0;go_wp2_with fail;go_ret;exact HRT.out _ _ (Below.refl _ _)
 have q1:decide (num≤0)=false:=by simpa using h1
 by_cases h2:1073741824<num
 ·have q2:decide (1073741824<num)=true:=by simpa using h2
  clear h2 h1 h0;go_wp2_with fail;go_ret;exact HRT.out _ _ (Below.refl _ _)
 have q2:decide (1073741824<num)=false:=by simpa using h2
 clear h2 h1 h0;go_wp2_with fail;clear d0 d1 k0 k1 k2 k3 k4 q0 q64 q1 q2;go_loopw [39] (fun i wr=>∃ k:Nat,i=.int .i64 k∧k≤D.length∧Hid (Below W1.heap.size W1 wr)) (fun i _=>D.length - (intOf i).toNat)
 case atStart=>exact⟨0,rfl,Nat.zero_le _,hd_ (Below.refl _ _)⟩
 case round =>
  obtain⟨k,rfl,hk,HI⟩:=hrel;by_cases hlt:k<D.length
  ·obtain⟨ad,rfl,hab,x0,x1,x2,x3,x4,x5,x6,x7,x8,x9,x10,x11⟩:=(HRV.out wr (z0r HA.out HI.out)).at_ hlt;generalize D[k]=r at x0 x1 x2 x3 x4 x5 x6 x7 x8 x9 x10 x11;have hX:Below wr.heap.size wr (wr.alloc (.cells #[.string r.path,.int .i64 r.num,.int .i64 r.chg,.int .i64 r.act,.int .i64 r.ty.base,.bool r.ty.k,.bool r.ty.l,.bool r.ty.x,.int .u64 r.sum,.int .i64 r.size,.string r.frm,.int .i64 r.fnum] 66)):=(Below.refl _ _).alloc (Nat.le_refl _) _;have hN:=z0l wr [.string r.path,.int .i64 r.num,.int .i64 r.chg,.int .i64 r.act,.int .i64 r.ty.base,.bool r.ty.k,.bool r.ty.l,.bool r.ty.x,.int .u64 r.sum,.int .i64 r.size,.string r.frm,.int .i64 r.fnum] 66;have HB:=hd_ (z0r HI.out hX);have HLT:=hd_ hlt;clear hX hab hlt;go_upto_region 8 with fail;clear x0 x1 x2 x3 x4 x5 x6 x7 x8 x9 x10 x11;generalize wr.alloc (.cells #[.string r.path,.int .i64 r.num,.int .i64 r.chg,.int .i64 r.act,.int .i64 r.ty.base,.bool r.ty.k,.bool r.ty.l,.bool r.ty.x,.int .u64 r.sum,.int .i64 r.size,.string r.frm,.int .i64 r.fnum] 66)=W5 at hN HB ⊢;generalize wr.heap.size=g6 at hN ⊢;have y2:W5.cell? ⟨g6,2,none⟩=some (.int .i64 r.chg):=hN.cell 2;obtain⟨-,k0,-⟩:=HX.out W5 HB.out;obtain⟨b,q⟩:∃ b,decide (num≤r.chg)=b:=⟨_,rfl⟩;clear hN;cases b with
   | true =>
    go_wp2_with fail;go_ret;exact HRT.out _ _ HB.out
   | false =>
    go_wp2_with fail;go_roundw
    case rel=>exact⟨k+1,by go_num,by have:=HLT.out;omega,HB⟩
    case measure=>have:=HLT.out;simp [intOf];omega
  ·have hke:k=D.length:=by omega
   subst hke;have HB1:=hd_ HI.out;have hge:¬((D.length:Int)<(D.length:Int)):=by omega
   obtain⟨-,k0,k1,k2,k3,k4⟩:=HX.out wr HI.out;clear HI;go_wp2_with fail;clear k0 k1 k2 k3 k4;go_loopw [52] (fun i wr=>∃ k:Nat,i=.int .i64 k∧k≤es.length∧Hid (Below W1.heap.size W1 wr)) (fun i _=>es.length - (intOf i).toNat)
   case atStart=>exact⟨0,rfl,Nat.zero_le _,HB1⟩
   case round =>
    obtain⟨k,rfl,hk,HI⟩:=hrel;by_cases hlt:k<es.length
    ·have HEC:=hd_ (HED.out k hlt wr (z0r HA.out HI.out));obtain⟨⟨d0,d1⟩,k0,k1,k2,k3,k4⟩:=HX.out wr HI.out;have HLT:=hd_ hlt;clear hlt;go_wp2_with fail;refine HEC.out.mono ?_;rintro e w5 ⟨⟨n,rfl⟩,hb⟩;dsimp only;have HB:=hd_ (z0r HI.out hb);obtain⟨b,q⟩:∃ b,(n != 0)=b:=⟨_,rfl⟩;clear hb HEC d0 d1 k0 k1 k2 k3 k4;cases b with
     | true =>
      go_wp2_with fail;go_ret;exact HRT.out _ _ HB.out
     | false =>
      go_wp2_with fail;go_roundw
      case rel=>exact⟨k+1,by go_num,by have:=HLT.out;omega,HB⟩
      case measure=>have:=HLT.out;simp [intOf];omega
    ·have hke:k=es.length:=by omega
     subst hke;have HB2:=hd_ HI.out;have hge:¬((es.length:Int)<(es.length:Int)):=by omega
     obtain⟨-,k0,k1,k2,k3,k4⟩:=HX.out wr HI.out;clear HI;go_wp2_with fail;clear k0 k1 k2 k3 k4;go_loopw [66] (fun i wr=>∃ k:Nat,i=.int .i64 k∧k≤es.length∧Hid (Below W1.heap.size W1 wr)) (fun i _=>es.length - (intOf i).toNat)
     case atStart=>exact⟨0,rfl,Nat.zero_le _,HB2⟩
     case round =>
      obtain⟨k,rfl,hk,HI⟩:=hrel;by_cases hlt:k<es.length
      ·obtain⟨ad,rfl,hab,x0,x1,x2,x3,x4,x5,x6,x7,x8,x9,x10,x11⟩:=(HEV.out wr (z0r HA.out HI.out)).at_ hlt;generalize es[k]=x at x0 x1 x2 x3 x4 x5 x6 x7 x8 x9 x10 x11;have hX:Below wr.heap.size wr (wr.alloc (.cells #[.string x.path,.int .i64 x.act,.int .i64 x.ty.base,.bool x.ty.k,.bool x.ty.l,.bool x.ty.x,.int .u64 x.sum,.int .i64 x.size,.int .i64 x.base,.string x.frm,.int .i64 x.fnum,.int .i64 x.fence] 90)):=(Below.refl _ _).alloc (Nat.le_refl _) _;have hN:=z0l wr [.string x.path,.int .i64 x.act,.int .i64 x.ty.base,.bool x.ty.k,.bool x.ty.l,.bool x.ty.x,.int .u64 x.sum,.int .i64 x.size,.int .i64 x.base,.string x.frm,.int .i64 x.fnum,.int .i64 x.fence] 90;have HB:=hd_ (z0r HI.out hX);have HLT:=hd_ hlt;clear hX hab hlt;go_upto_region 21 with fail;clear x0 x1 x2 x3 x4 x5 x6 x7 x8 x9 x10 x11;generalize wr.alloc (.cells #[.string x.path,.int .i64 x.act,.int .i64 x.ty.base,.bool x.ty.k,.bool x.ty.l,.bool x.ty.x,.int .u64 x.sum,.int .i64 x.size,.int .i64 x.base,.string x.frm,.int .i64 x.fnum,.int .i64 x.fence] 90)=W5 at hN HB ⊢;generalize wr.heap.size=g10 at hN ⊢;obtain⟨y0,y1,y2,y3,y4,y5,y6,y7,y8,y9,y10,y11⟩:=z7z hN;obtain⟨-,k0,k1,k2,k3,k4⟩:=HX.out W5 HB.out;have HMC:=hd_ (HMV.out x W5 (z0r HA.out HB.out));generalize zi7 es x=b at HMC;clear hN;cases b
       all_goals
        go_wp2_with fail;refine HMC.out.mono ?_;rintro e w6 ⟨rfl,hb⟩;dsimp only;have HB6:=hd_ (z0r HB.out hb);clear hb y0 y1 y2 y3 y4 y5 y6 y7 y8 y9 y10 y11 k0 k1 k2 k3 k4 HMC
       ·go_wp2_with fail;go_ret;exact HRT.out _ _ HB6.out
       ·go_wp2_with fail;go_roundw
        case rel=>exact⟨k+1,by go_num,by have:=HLT.out;omega,HB6⟩
        case measure=>have:=HLT.out;simp [intOf];omega
      ·have hke:k=es.length:=by omega
       subst hke;have HB3:=hd_ HI.out;have hge:¬((es.length:Int)<(es.length:Int)):=by omega
       obtain⟨-,k0,k1,k2,k3,k4⟩:=HX.out wr HI.out;clear HI;go_wp2_with fail;clear k0 k1 k2 k3 k4;go_loopw [78] (fun i wr=>i=.int .i64 0∧Hid (Below W1.heap.size W1 wr)) (fun i _=>0)
       case atStart=>exact⟨rfl,HB3⟩
       case round =>
        obtain⟨rfl,HI⟩:=hrel;obtain⟨⟨d0,d1⟩,k0,k1,k2,k3,k4⟩:=HX.out wr HI.out;obtain⟨b,q⟩:∃ b,decide ((512:Int)<(D.length:Int)+(es.length:Int))=b:=⟨_,rfl⟩;have hwz:IntKind.i64.wrap ((D.length:Int)+(es.length:Int))=(D.length:Int)+(es.length:Int):=by rw[IntKind.wrap_i64];omega
        cases b
        all_goals
         go_wp2_with fail;go_ret;exact HRT.out _ _ HI.out
open Go.Sort (grow)
theorem bkR23 (ops:Array Oper)(hops:Tryz.f38.body.bind (zci 23)=some ops)(Q:Exit→Act→World→Prop)(V1:World)(g n c i g13:Nat)(x:Syn)(hp:ByteArray)
  (hx:z50 V1 ⟨g,i * 5,none⟩ x) (hh:V1.cell? ⟨g13,0,none⟩=some (.string hp)) (hi:i<n)
  (u0 u2 u3 u4 u5 u6 u7 u8 u9 gn gt gu gy gA gC gD gE gF gG gH gI gJ gK gL gM gN gO gP gQ gR gT gV gW gX gY gZ i6 i7 i8 ia ib ic ie ig ii ij ik il im io ip iq ir iu iv iw ix iy iz iA iB iC iD iE iF iG iH iI iJ iK iL iM iN iO iP iQ iR iS iT iU iV iW iX iY iZ j0 j1 j2 j5 j6 j7 j8 j9 jb jd je jf bw bz bA bB bD bE bF bG bH bI bJ bK bL bM bN bO bP bQ bT bU bV bW bX bY bZ ca cj:Value)
  (hQ:∀(fV fW fX fY fZ ga gb gf gg gh gi gj gm aa:Value) (w':World),Below V1.heap.size V1 w'→Q .normal ⟨#[u0,.slice (some ⟨g,0,none⟩) n c,u2,u3,u4,u5,u6,u7,u8,u9,gn,gt,gu,.pointer (some ⟨g13,0,none⟩),gy,.int .i64 i,gA,gC,gD,gE,gF,gG,gH,gI,gJ,gK,gL,gM,gN,gO,gP,gQ,gR,gT,gV,gW,gX,gY,gZ,i6,i7,i8,ia,ib,ic,ie,ig,ii,ij,ik,il,im,io,ip,iq,ir,iu,iv,iw,ix,iy,iz,iA,iB,iC,iD,iE,iF,iG,iH,iI,iJ,iK,iL,iM,iN,iO,iP,iQ,iR,iS,iT,iU,iV,iW,iX,iY,fV,fW,fX,fY,fZ,ga,gb,gf,gg,gh,gi,gj,gm,aa,.bool (decide (x.path=hp) || z3o x.kind),bA,bB,bD,bE,bF,bG,bH,bI,bJ,bK,bL,bM,bN,bO,bP,bQ,bT,bU,bV,bW,bX,bY,bZ,ca,cj],[]⟩ w'):
  (Code.region 23 ops true).wp Tryz.prog Q ⟨#[u0,.slice (some ⟨g,0,none⟩) n c,u2,u3,u4,u5,u6,u7,u8,u9,gn,gt,gu,.pointer (some ⟨g13,0,none⟩),gy,.int .i64 i,gA,gC,gD,gE,gF,gG,gH,gI,gJ,gK,gL,gM,gN,gO,gP,gQ,gR,gT,gV,gW,gX,gY,gZ,i6,i7,i8,ia,ib,ic,ie,ig,ii,ij,ik,il,im,io,ip,iq,ir,iu,iv,iw,ix,iy,iz,iA,iB,iC,iD,iE,iF,iG,iH,iI,iJ,iK,iL,iM,iN,iO,iP,iQ,iR,iS,iT,iU,iV,iW,iX,iY,iZ,j0,j1,j2,j5,j6,j7,j8,j9,jb,jd,je,jf,bw,bz,bA,bB,bD,bE,bF,bG,bH,bI,bJ,bK,bL,bM,bN,bO,bP,bQ,bT,bU,bV,bW,bX,bY,bZ,ca,cj],[]⟩ V1:=by
 simp only[Tryz.f38,Option.bind_some,zci] at hops
 simp at hops
 subst hops;have HQ:=hd_ hQ;have HST:=hd_ (fun X=>z3u x X);have cC:∀ d os,Calls Tryz.prog 62 #[.agg #[.int .i64 x.kind,.string x.path,.int .i64 x.num,.string x.frm,.string x.dst]] (grow (redrawn V1 d) os) fun e w''=>e=.returned (.bool (z3o x.kind))∧∃ p:Regrown,w''=grow (redrawn V1 p.d) p.os:=fun d os=>Calls.regrown_of (HST.out _);obtain⟨s0,s1,s2,s3,s4⟩:=hx;have e0:=cell_regrown s0;have e1:=cell_regrown s1;have e2:=cell_regrown s2;have e3:=cell_regrown s3;have e4:=cell_regrown s4;have b0:=cell_regrown hh;clear s0 s1 s2 s3 s4 hh hQ;generalize z3o x.kind=b at cC HQ;by_cases h1:x.path=hp
 ·have q1:(x.path.toList == hp.toList)=true:=by rw[z3x,decide_eq_true h1]
  rw[decide_eq_true h1,Bool.true_or] at HQ;clear h1;refine wp_region_quiet_below (by kernel_rfl) (by kernel_rfl) ?_
  repeat (first | go_big_quiet_step (exact cC _ _) | quiet_step (exact cC _ _))
  refine wpQuiet_nil ?_;intro _ hw9;obtain⟨⟨dq,osq⟩,hw9⟩:=hw9;subst hw9;exact HQ.out _ _ _ _ _ _ _ _ _ _ _ _ _ _ _ (below_regrown V1 dq osq)
 ·have q1:(x.path.toList == hp.toList)=false:=by rw[z3x,decide_eq_false h1]
  rw[decide_eq_false h1,Bool.false_or] at HQ;clear h1;refine wp_region_quiet_below (by kernel_rfl) (by kernel_rfl) ?_
  repeat (first | go_big_quiet_step (exact cC _ _) | quiet_step (exact cC _ _))
  refine wpQuiet_nil ?_;intro _ hw9;obtain⟨⟨dq,osq⟩,hw9⟩:=hw9;subst hw9;exact HQ.out _ _ _ _ _ _ _ _ _ _ _ _ _ _ _ (below_regrown V1 dq osq)
structure Bk3 (X wr:World)(B B2:Nat)(Ap:Option Addr)(c bC:Nat)(pl:List Syn)(b:ByteArray→Bool)(QH:List Hav)(qv:Value):Prop where
 own:zjv wr B (.slice Ap pl.length c) (zeg b pl)
 com:zkp wr X.heap.size B2 bC (zkq pl pl.length)
 low:Below B X wr
 que:zk1 wr B2 44 3 qv QH.length (QH.flatMap Hav.cells)
 b2:B2≤wr.heap.size
theorem zl2 (b:ByteArray→Bool)(pl:List Syn):(zeg b pl).length=pl.length:=List.length_map _
section
variable {X wr wx : World} {B B2 g c bC : Nat} {Ap : Option Addr} {pl : List Syn} {b : ByteArray → Bool} {QH : List Hav} {qv : Value}
theorem Bk3.under (h:Bk3 X wr B B2 Ap c bC pl b QH qv)(hb:Below wr.heap.size wr wx)(hB:B≤B2):Bk3 X wx B B2 Ap c bC pl b QH qv:=
 ⟨z0n h.own hb,h.com.keep fun x hx _=>hb.block x (Nat.lt_of_lt_of_le hx h.b2),h.low.trans (hb.mono (Nat.le_trans hB h.b2)),h.que.below hb,Nat.le_trans h.b2 hb.size⟩
theorem Bk3.pop {x:Hav}{ad:Addr}{cq:Nat}(h:Bk3 X wr B B2 Ap c bC pl b (x :: QH) (.slice (some ad) (QH.length+1) cq)):Bk3 X wr B B2 Ap c bC pl b QH (.slice (if cq=1 then some ad else some ⟨ad.block,ad.off+3,none⟩) QH.length (cq - 1)):=by
 have hq:zk1 wr B2 44 3 (.slice (some ad) (QH.length+1) cq) (QH.length+1) ((x :: QH).flatMap Hav.cells):=h.que;have ht:=hq.tail;have hd:((x :: QH).flatMap Hav.cells).drop 3=QH.flatMap Hav.cells:=by rw[List.flatMap_cons];rfl
 rw[hd] at ht;exact⟨h.own,h.com,h.low,ht,h.b2⟩
theorem Bk3.mark_ (h:Bk3 X wr B B2 (some ⟨g,0,none⟩) c bC pl b QH qv)(hs:z6c pl){k:Nat}(hk:k<pl.length)(hg:g<X.heap.size)(hB:B≤g)(hX:X.heap.size≤B2)(hC:X.heap.size≤bC):
  Bk3 X (wr.setCell ⟨g,k * 5,none⟩ (.int .i64 5)) B B2 (some ⟨g,0,none⟩) c bC pl (setB b pl[k].path) QH qv:=by
 have hk2:k<(zeg b pl).length:=by rw[zl2];exact hk
 have ho:=zjv.put h.own hk2 5;rw[zkx hs b hk hk2] at ho;refine⟨ho,h.com.keep fun x _ hx=>Below.heap_setCell wr ⟨g,k * 5,none⟩ _ x ?_,h.low.setCell hB _,h.que.setCell (p:=⟨g,k * 5,none⟩) (fun e=>by have h2:=(h.que.lt g e).1;omega) _,by simpa [World.setCell] using h.b2⟩
 show x≠g
 rcases hx with hx | hx
 ·omega
 ·omega
theorem Bk3.push {y:Hav}{A':Option Addr}{c':Nat}(h:Bk3 X wr B B2 Ap c bC pl b QH qv)(hB:B≤B2)(hg:∀ x,(Value.slice Ap pl.length c).ownBlock=some x→x<B2)(hq:zk1 wx B2 44 3 (.slice A' (QH.length+1) c') (QH.length+1) (QH.flatMap Hav.cells++y.cells))(hs:zl1 wr wx qv):
  Bk3 X wx B B2 Ap c bC pl b (QH++[y]) (.slice A' (QH.length+1) c'):=by
 have hlt:=h.que.lt;refine⟨?_,h.com.keep fun x hx _=>hs.block (Nat.lt_of_lt_of_le hx h.b2) (fun e=>by have:=(hlt x e).1;omega),hs.low h.low (Nat.le_trans hB h.b2) (fun k e=>Nat.le_trans hB (hlt k e).1),?_,Nat.le_trans h.b2 hs.size⟩
 ·refine⟨h.own.1,?_⟩;rcases h.own.2 with e | ⟨g',cap,cur,e1,h1,h2,h3⟩
  ·exact .inl e
  ·refine .inr ⟨g',cap,cur,e1,h1,(hs.block (Array.getElem?_eq_some_iff.1 h2).1 (fun e=>?_)).trans h2,h3⟩;have h5:=(hlt g' e).1;have h6:=hg g' (by rw[e1];rfl)
   omega
 ·rw[List.length_append,List.flatMap_append];have e:[y].flatMap Hav.cells=y.cells:=by simp
  rw[e];exact hq
end
def zmo (w:World)(v:Value)(b:Bool)(e:Ending)(w':World):Prop:=Below w.heap.size w w'∧∃ H n c,e=.returned (.agg #[v,.bool b,.slice H n c])
theorem zmp (T:Code)(hT:Tryz.f184.body.bind (zhv 9)=some T)(w W:World)(A:Option Addr)(n a g2 g4:Nat)(b:Bool)(hP:zbo W g2 (.slice A n a) b)(hR:Blk W g4 115 [.slice none 0 0,.bool false,.slice none 0 0])(hb:Below w.heap.size w W)(h4:w.heap.size≤g4)
  (u0 u1 u3 u6 u7 u8 u9 gn gt gu gx gy gz gA gC gD gE gF gG gH gI gJ gK gL gM gN gO gP gQ gR gT gV gW gX gY gZ i6 i7 i8 ia ib ic ie ig ii ij ik il im io ip iq ir iu iv iw ix iy iz iA iB iC iD iE iF iG iH iI iJ iK iL iM iN iO iP iQ iR iS iT iU iV iW iX iY iZ j0 j1 j2 j5 j6 j7 j8 j9 jb jd je jf bw bz bA bB bD bE bF bG bH bI bJ bK bL bM bN bO bP bQ bT bU bV bW:Value):
  T.wp Tryz.prog (bodyPost Tryz.prog Tryz.f184 (zmo w (.slice A n a) b)) ⟨#[u0,u1,.pointer (some ⟨g2,0,none⟩),u3,.pointer (some ⟨g4,0,none⟩),.slice none 0 0,u6,u7,u8,u9,gn,gt,gu,gx,gy,gz,gA,gC,gD,gE,gF,gG,gH,gI,gJ,gK,gL,gM,gN,gO,gP,gQ,gR,gT,gV,gW,gX,gY,gZ,i6,i7,i8,ia,ib,ic,ie,ig,ii,ij,ik,il,im,io,ip,iq,ir,iu,iv,iw,ix,iy,iz,iA,iB,iC,iD,iE,iF,iG,iH,iI,iJ,iK,iL,iM,iN,iO,iP,iQ,iR,iS,iT,iU,iV,iW,iX,iY,iZ,j0,j1,j2,j5,j6,j7,j8,j9,jb,jd,je,jf,bw,bz,bA,bB,bD,bE,bF,bG,bH,bI,bJ,bK,bL,bM,bN,bO,bP,bQ,bT,bU,bV,bW],[]⟩ W:=by
 simp only[Tryz.f184,Option.bind_some,zhv,zhu] at hT
 simp at hT
 subst hT;have HP:=hd_ hP;have HR:=hd_ hR;have HB:=hd_ hb;clear hP hR hb;go_wp2_with fail;go_loopw [38] (fun i wr=>i=.int .i64 0∧wr=W) (fun i _=>0)
 case atStart=>exact⟨rfl,rfl⟩
 case round =>
  obtain⟨rfl,rfl⟩:=hrel;have x0:=HP.out.c0;have x1:=HP.out.c1;go_wp2_with fail;have hX:Below wr.heap.size wr (wr.alloc (.cells #[.slice A n a,.bool b,.slice none 0 0] 115)):=(Below.refl _ _).alloc (Nat.le_refl _) _;have HZ:=hd_ (z0l wr [.slice A n a,.bool b,.slice none 0 0] 115);have HR2:=hd_ (HR.out.below hX HR.out.lt);have HB2:=hd_ (z0r HB.out hX);have HLT:=hd_ HR.out.lt;clear hX x0 x1;generalize wr.alloc (.cells #[.slice A n a,.bool b,.slice none 0 0] 115)=W2 at HZ HR2 HB2 ⊢;generalize wr.heap.size=g12 at HZ HLT ⊢;go_loopw [81] (fun i wr=>i=.int .i64 0∧wr=W2) (fun i _=>0)
  case atStart=>exact⟨rfl,rfl⟩
  case round =>
   obtain⟨rfl,rfl⟩:=hrel;obtain⟨z0,z1,z2⟩:=(⟨HZ.out.cell 0,HZ.out.cell 1,HZ.out.cell 2⟩:wr.cell? ⟨g12,0,none⟩=some (.slice A n a)∧wr.cell? ⟨g12,1,none⟩=some (.bool b)∧wr.cell? ⟨g12,2,none⟩=some (.slice none 0 0));obtain⟨u0,u1,u2⟩:=(⟨HR2.out.cell 0,HR2.out.cell 1,HR2.out.cell 2⟩:wr.cell? ⟨g4,0,none⟩=some (.slice none 0 0)∧wr.cell? ⟨g4,1,none⟩=some (.bool false)∧wr.cell? ⟨g4,2,none⟩=some (.slice none 0 0));obtain⟨v0,v1,v2⟩:=(⟨HR2.out.frozen 0,HR2.out.frozen 1,HR2.out.frozen 2⟩:wr.frozen? ⟨g4,0,none⟩=false∧wr.frozen? ⟨g4,1,none⟩=false∧wr.frozen? ⟨g4,2,none⟩=false);go_wp2_with fail;have hE:=((HR2.out.set_ 0 (.slice A n a)).set_ 1 (.bool b)).set_ 2 (.slice none 0 0);have hb:=((HB2.out.setCell (p:=⟨g4,0,none⟩) h4 (.slice A n a)).setCell (p:=⟨g4,1,none⟩) h4 (.bool b)).setCell (p:=⟨g4,2,none⟩) h4 (.slice none 0 0);generalize ((wr.setCell ⟨g4,0,none⟩ (.slice A n a)).setCell ⟨g4,1,none⟩ (.bool b)).setCell ⟨g4,2,none⟩ (.slice none 0 0)=W3 at hE hb ⊢;have e0:=hE.cell 0;have e1:=hE.cell 1;have e2:=hE.cell 2;exact bodyPost_ret (v:=.agg #[.slice A n a,.bool b,.slice none 0 0]) (by simp [results,Tryz.results184,go_sem,e0,e1,e2]) rfl ⟨hb,_,_,_,rfl⟩
structure SmSt (w W wr:World)(A:Option Addr)(n a g4 g12:Nat)(b:Bool)(hv:Value):Prop where
 low:Below W.heap.size W wr
 res:Blk wr g4 115 [.slice none 0 0,.bool false,.slice none 0 0]
 box:Blk wr g12 115 [.slice A n a,.bool b,hv]
theorem SmSt.under {w W wr wx:World}{A:Option Addr}{n a g4 g12:Nat}{b:Bool}{hv:Value}(h:SmSt w W wr A n a g4 g12 b hv)(hb:Below wr.heap.size wr wx):SmSt w W wx A n a g4 g12 b hv:=
 ⟨z0r h.low hb,h.res.below hb h.res.lt,h.box.below hb h.box.lt⟩
theorem zmq (T:Code)(hT:Tryz.f184.body.bind (zhv 9)=some T)(w W:World)(A Am:Option Addr)(n a g2 g4 g cap nm cm:Nat)(b bm:Bool)(hP:zbo W g2 (.slice A n a) b)(hR:Blk W g4 115 [.slice none 0 0,.bool false,.slice none 0 0])(hb:Below w.heap.size w W)(h4:w.heap.size≤g4)(hc:1≤cap)
  (hm0:W.cell? ⟨g,0,none⟩=some (.slice Am nm cm)) (hm1:W.cell? ⟨g,1,none⟩=some (.bool bm))
  (u0 u1 u3 u6 u7 u8 u9 gn gt gu gx gy gz gA gC gD gE gF gG gH gI gJ gK gL gM gN gO gP gQ gR gT gV gW gX gY gZ i6 i7 i8 ia ib ic ie ig ii ij ik il im io ip iq ir iu iv iw ix iy iz iA iB iC iD iE iF iG iH iI iJ iK iL iM iN iO iP iQ iR iS iT iU iV iW iX iY iZ j0 j1 j2 j5 j6 j7 j8 j9 jb jd je jf bw bz bA bB bD bE bF bG bH bI bJ bK bL bM bN bO bP bQ bT bU bV bW:Value):
  T.wp Tryz.prog (bodyPost Tryz.prog Tryz.f184 (zmo w (.slice A n a) b)) ⟨#[u0,u1,.pointer (some ⟨g2,0,none⟩),u3,.pointer (some ⟨g4,0,none⟩),.slice (some ⟨g,0,none⟩) 1 cap,u6,u7,u8,u9,gn,gt,gu,gx,gy,gz,gA,gC,gD,gE,gF,gG,gH,gI,gJ,gK,gL,gM,gN,gO,gP,gQ,gR,gT,gV,gW,gX,gY,gZ,i6,i7,i8,ia,ib,ic,ie,ig,ii,ij,ik,il,im,io,ip,iq,ir,iu,iv,iw,ix,iy,iz,iA,iB,iC,iD,iE,iF,iG,iH,iI,iJ,iK,iL,iM,iN,iO,iP,iQ,iR,iS,iT,iU,iV,iW,iX,iY,iZ,j0,j1,j2,j5,j6,j7,j8,j9,jb,jd,je,jf,bw,bz,bA,bB,bD,bE,bF,bG,bH,bI,bJ,bK,bL,bM,bN,bO,bP,bQ,bT,bU,bV,bW],[]⟩ W:=by
 simp only[Tryz.f184,Option.bind_some,zhv,zhu] at hT
 simp at hT
 subst hT;have HP:=hd_ hP;have HR:=hd_ hR;have HB:=hd_ hb;have HM:Hid (∀ X,Below W.heap.size W X→X.cell? ⟨g,0,none⟩=some (.slice Am nm cm)∧X.cell? ⟨g,1,none⟩=some (.bool bm)):=hd_ fun X hX=>⟨z04 hm0 hX (z03 hm0),z04 hm1 hX (z03 hm1)⟩;clear hP hR hb hm0 hm1;go_wp2_with fail;go_loopw [38] (fun i wr=>∃ k:Nat,i=.int .i64 k∧k≤1∧Hid (Below W.heap.size W wr)) (fun i _=>1 - (intOf i).toNat)
 case atStart=>exact⟨0,rfl,Nat.zero_le _,hd_ (Below.refl _ _)⟩
 case round =>
  obtain⟨k,rfl,hk,HI⟩:=hrel;by_cases hlt:k<1
  ·have hk0:k=0:=by omega
   subst hk0;go_wp2_with fail;have HW:=hd_ HI.out;generalize hgw:wr=wo at HW ⊢;clear hgw;go_loopw [11] (fun i wq=>i=.int .i64 0∧Hid (Below wo.heap.size wo wq)) (fun i _=>0)
   case atStart=>exact⟨rfl,hd_ (Below.refl _ _)⟩
   case round =>
    obtain⟨rfl,HJ⟩:=hrel;go_wp2_with fail;refine wp_region_quiet_below (by kernel_rfl) (by kernel_rfl) ?_
    repeat (first | go_big_quiet_step (fail) | quiet_step (fail))
    refine wpQuiet_nil ?_;intro _ hw9;obtain⟨⟨dq,osq⟩,hw9⟩:=hw9;subst hw9;have HN:=hd_ (z0r HW.out (z0r HJ.out (below_regrown wr dq osq)));generalize grow (redrawn wr dq) osq=W1 at HN ⊢;go_wp2_with fail;go_roundw
    case rel=>exact⟨1,by go_num,Nat.le_refl _,HN⟩
    case measure=>simp [intOf]
  ·have hk1:k=1:=by omega
   subst hk1;generalize hz:((1:Nat):Int)=z;have hz2:z=1:=by omega
   subst hz2;clear hz;have x0:=(HP.out.low HI.out).c0;have x1:=(HP.out.low HI.out).c1;have HIW:=hd_ HI.out;have HR1:=hd_ (HR.out.below HI.out HR.out.lt);have hX:Below wr.heap.size wr (wr.alloc (.cells #[.slice A n a,.bool b,.slice none 0 0] 115)):=(Below.refl _ _).alloc (Nat.le_refl _) _;have HS:Hid (SmSt w W (wr.alloc (.cells #[.slice A n a,.bool b,.slice none 0 0] 115)) A n a g4 wr.heap.size b (.slice none 0 0)):=hd_ ⟨z0r HI.out hX,HR1.out.below hX HR1.out.lt,z0l wr _ _⟩;have HG:Hid (W.heap.size≤wr.heap.size):=hd_ HI.out.size;have HNE:Hid (g4<wr.heap.size):=hd_ (Nat.lt_of_lt_of_le HR.out.lt HI.out.size);clear hX HI;go_wp2_with fail;clear x0 x1;generalize wr.alloc (.cells #[.slice A n a,.bool b,.slice none 0 0] 115)=W2 at HS ⊢;generalize wr.heap.size=g12 at HS HG HNE ⊢;go_loopw [81] (fun i wr=>∃(k:Nat) (H:Option Addr) (nh ch:Nat),i=.int .i64 k∧k≤1∧(k=0→Value.slice H nh ch=.slice none 0 0)∧Hid (SmSt w W wr A n a g4 g12 b (.slice H nh ch))) (fun i _=>1 - (intOf i).toNat)
   case atStart=>exact⟨0,none,0,0,rfl,Nat.zero_le _,fun _=>rfl,HS⟩
   case round =>
    obtain⟨k,H,nh,ch,rfl,hk,hnil,HJ⟩:=hrel;clear HS;by_cases hlt:k<1
    ·have hk0:k=0:=by omega
     subst hk0;have hv:=hnil rfl;injection hv with hv1 hv2 hv3
     subst hv1 hv2 hv3;obtain⟨s0,s1⟩:=HM.out wr HJ.out.low;have hX:Below wr.heap.size wr (wr.alloc (.cells #[.slice Am nm cm,.bool bm] 97)):=(Below.refl _ _).alloc (Nat.le_refl _) _;have HJ5:=hd_ (HJ.out.under hX);have HX5:=hd_ (z0l wr [.slice Am nm cm,.bool bm] 97);clear hnil hX;go_upto_region 22 with fail;clear s0 s1;generalize wr.alloc (.cells #[.slice Am nm cm,.bool bm] 97)=W5 at HJ5 HX5 ⊢;generalize wr.heap.size=g14 at HX5 ⊢;go_wp2_with fail;go_loopw [15,88] (fun z i wq=>∃ j:Nat,z=.bool true∧i=.int .i64 j∧j≤1∧Hid (Below W5.heap.size W5 wq)) (fun _ i _=>1 - (intOf i).toNat)
     case atStart=>exact⟨0,rfl,rfl,Nat.zero_le _,hd_ (Below.refl _ _)⟩
     case round =>
      obtain⟨j,rfl,rfl,hj,HK⟩:=hrel;by_cases hlt2:j<1
      ·have hj0:j=0:=by omega
       subst hj0;obtain⟨s0,s1⟩:=HM.out wr (z0r HJ5.out.low HK.out);have hX:Below wr.heap.size wr (wr.alloc (.cells #[.slice Am nm cm,.bool bm] 97)):=(Below.refl _ _).alloc (Nat.le_refl _) _;have HN:=hd_ (z0r HK.out hX);clear hX;go_wp2_with fail;go_roundw
       case rel=>exact⟨1,rfl,by go_num,Nat.le_refl _,HN⟩
       case measure=>simp [intOf]
      ·have hj1:j=1:=by omega
       subst hj1;have HJ6:=hd_ (HJ5.out.under HK.out);have HX6:=hd_ (HX5.out.below HK.out HX5.out.lt);clear HK;obtain⟨y0,y1⟩:=(⟨HX6.out.cell 0,HX6.out.cell 1⟩:wr.cell? ⟨g14,0,none⟩=some (.slice Am nm cm)∧wr.cell? ⟨g14,1,none⟩=some (.bool bm));have z2:wr.cell? ⟨g12,2,none⟩=some (.slice none 0 0):=HJ6.out.box.cell 2;have hba:Below wr.heap.size wr (wr.alloc (.cells #[.slice Am nm cm,.bool bm] 97)):=(Below.refl _ _).alloc (Nat.le_refl _) _;have HJ7:=hd_ (HJ6.out.under hba);have hrow:=z0i wr [.slice Am nm cm,.bool bm] 97 2 1 rfl (by unfold maxLen;omega) wr.heap.size rfl
       have HON:=hd_ (World.ownsRow_nil (wr.alloc (.cells #[.slice Am nm cm,.bool bm] 97)) (wr.alloc (.cells #[.slice Am nm cm,.bool bm] 97)).heap.size 97 2);clear hba;go_wp2_with (at_builtin;refine z0j rfl rfl zdd HON.out rfl hrow rfl (by simp [Value.oneCell']) (by omega) (by unfold maxLen;omega) (Nat.le_refl _) ?_;intro A' c' w6 hown hgr hob;have hb6:=zm9 hgr rfl;have hbx:=(HJ7.out.under hb6).box;have zf:=Blk.frozen hbx 2;have zc:=Blk.cell hbx 2)
       have HJ8:=hd_ (HJ7.out.under hb6);have HN:Hid (SmSt w W (w6.setCell ⟨g12,2,none⟩ (.slice A' (0+1) c')) A n a g4 g12 b (.slice A' (0+1) c')):=hd_ ⟨HJ8.out.low.setCell (p:=⟨g12,2,none⟩) HG.out _,Blk.far HJ8.out.res (p:=⟨g12,2,none⟩) (by have:=HNE.out;simp;omega) _,HJ8.out.box.set_ 2 _⟩
       clear hown hgr hob hb6 hbx zf zc y0 y1 z2 hrow;go_wp2_with fail;go_roundw
       case rel=>exact⟨1,A',0+1,c',by go_num,Nat.le_refl _,fun h=>by omega,HN⟩
       case measure=>simp [intOf]
    ·have hk1:k=1:=by omega
     subst hk1;obtain⟨z0,z1,z2⟩:=(⟨HJ.out.box.cell 0,HJ.out.box.cell 1,HJ.out.box.cell 2⟩:wr.cell? ⟨g12,0,none⟩=some (.slice A n a)∧wr.cell? ⟨g12,1,none⟩=some (.bool b)∧wr.cell? ⟨g12,2,none⟩=some (.slice H nh ch));obtain⟨u0,u1,u2⟩:=(⟨HJ.out.res.cell 0,HJ.out.res.cell 1,HJ.out.res.cell 2⟩:wr.cell? ⟨g4,0,none⟩=some (.slice none 0 0)∧wr.cell? ⟨g4,1,none⟩=some (.bool false)∧wr.cell? ⟨g4,2,none⟩=some (.slice none 0 0));obtain⟨v0,v1,v2⟩:=(⟨HJ.out.res.frozen 0,HJ.out.res.frozen 1,HJ.out.res.frozen 2⟩:wr.frozen? ⟨g4,0,none⟩=false∧wr.frozen? ⟨g4,1,none⟩=false∧wr.frozen? ⟨g4,2,none⟩=false);have HB2:=hd_ (z0r HB.out HJ.out.low);have HR2:=hd_ HJ.out.res;clear hnil;go_wp2_with fail;have hE:=((HR2.out.set_ 0 (.slice A n a)).set_ 1 (.bool b)).set_ 2 (.slice H nh ch);have hb:=((HB2.out.setCell (p:=⟨g4,0,none⟩) h4 (.slice A n a)).setCell (p:=⟨g4,1,none⟩) h4 (.bool b)).setCell (p:=⟨g4,2,none⟩) h4 (.slice H nh ch);generalize ((wr.setCell ⟨g4,0,none⟩ (.slice A n a)).setCell ⟨g4,1,none⟩ (.bool b)).setCell ⟨g4,2,none⟩ (.slice H nh ch)=W3 at hE hb ⊢;have e0:=hE.cell 0;have e1:=hE.cell 1;have e2:=hE.cell 2;exact bodyPost_ret (v:=.agg #[.slice A n a,.bool b,.slice H nh ch]) (by simp [results,Tryz.results184,go_sem,e0,e1,e2]) rfl ⟨hb,_,_,_,rfl⟩
theorem neq_syn (x:Syn)(W:World):(binOp .neq 48 (.agg #[.int .i64 x.kind,.string x.path,.int .i64 x.num,.string x.frm,.string x.dst]) (.agg #[.int .i64 x.kind,.string x.path,.int .i64 x.num,.string x.frm,.string x.dst])).run Tryz.prog W=.ok (.bool false) W:=by
 rw[run_neq_struct,run_equalIn_agg W 9999 48 _ _ (by kernel_rfl) (by kernel_rfl)]
 simp [go_sem,Op.eqFields]
theorem znd (L:List Syn)(v u:Value)(w:World)(h1:z4z w v L)(h2:z4z w u L):
  Calls Tryz.prog 23 #[v,u] w fun e w'=>e=.returned (.bool true)∧Below w.heap.size w w':=by
 obtain⟨A1,c1,rfl,-,hmm,-⟩:=id h1;obtain⟨A2,c2,rfl,-⟩:=id h2;unfold maxLen at hmm;have hml:L.length≤9223372036854775807:=by obtain⟨A',c',e,h,-⟩:=id h1;injection e;omega
 have H1:=hd_ h1;have H2:=hd_ h2;clear h1 h2;have q0:((L.length:Int) != (L.length:Int))=false:=by simp
 go_enter Tryz.func23,Tryz.ntmps23;go_wp2_with fail;clear q0;go_loopw [5] (fun s wr=>∃ k:Nat,s=.int .i64 k∧k≤L.length∧Hid (Below w.heap.size w wr)) (fun s _=>L.length - (intOf s).toNat)
 case atStart=>exact⟨0,rfl,Nat.zero_le _,Below.refl _ _⟩
 case round =>
  obtain⟨k,rfl,hk,HI⟩:=hrel;by_cases hlt:k<L.length
  ·obtain⟨a1,rfl,hb1,hx⟩:=z4z.at_ (Row.below H1.out HI.out) hlt;obtain⟨a2,rfl,hb2,hy⟩:=z4z.at_ (Row.below H2.out HI.out) hlt;have hz1:(k:Int)<(L.length:Int):=by omega
   generalize L[k]=r at hx hy;obtain⟨x0,x1,x2,x3,x4⟩:=hx;obtain⟨y0,y1,y2,y3,y4⟩:=hy;have hne:=neq_syn r;go_upto_region 6 with fail;go_quiet (fail)
   clear x0 x1 x2 x3 x4 y0 y1 y2 y3 y4 hne;go_wp2_with fail;go_roundw
   case rel=>exact⟨k+1,by go_num,by omega,z0p HI.out _⟩
   case measure=>simp [intOf];omega
  ·have HB:=hd_ HI.out;have hge:¬((k:Int)<(L.length:Int)):=by omega
   go_wp2_with fail;go_ret;exact⟨rfl,HB.out⟩
theorem znt (b:Pat)(hs:List zd1)(A H:Option Addr)(a c:Nat)(w:World)(hb:za9 w (.slice A b.parts.length a) b)(hh:zd2 w (.slice H hs.length c) hs)(hl:hs.length≤1000000):
  Calls Tryz.prog 136 #[.agg #[.slice A b.parts.length a,.bool b.rest,.slice H hs.length c]] w fun e w'=>e=.returned (.int .i64 (zd3 b hs))∧Below w.heap.size w w':=by
 have hB:=z0l w [.slice A b.parts.length a,.bool b.rest,.slice H hs.length c] 115;have hA:Below w.heap.size w (w.alloc (.cells #[.slice A b.parts.length a,.bool b.rest,.slice H hs.length c] 115)):=(Below.refl _ _).alloc (Nat.le_refl _) _;have HC:=hd_ (fun X (hX:Below w.heap.size w X)=>zca b A a X (hb.below hX).1 hb.small);have HH:=hd_ hh;have HN1:=hd_ (@zd4 b hs);have HN2:=hd_ (fun k=>@zd5 b hs k);have HN3:=hd_ (@zd6 b hs);clear hb hh;go_enter Tryz.func136,Tryz.ntmps136;go_upto_region 1 with fail;generalize w.alloc (.cells #[.slice A b.parts.length a,.bool b.rest,.slice H hs.length c] 115)=W1 at hA hB ⊢;obtain⟨d0,d1⟩:=(⟨hB.cell 0,hB.cell 1⟩:W1.cell? ⟨w.heap.size,0,none⟩=some (.slice A b.parts.length a)∧W1.cell? ⟨w.heap.size,1,none⟩=some (.bool b.rest));have HB:=hd_ hB;have HA:=hd_ hA;have HC1:=hd_ (HC.out W1 hA);clear hA hB HC;obtain⟨pe,hpe⟩:∃ pe,z7e b=pe:=⟨_,rfl⟩;have HPE:=hd_ hpe;rw[hpe] at HC1;clear hpe;by_cases h0:pe=0
 case neg =>
  have q:(pe != 0)=true:=by simpa using h0
  have HR:=hd_ (HN1.out (by rw[HPE.out];exact h0))
  clear h0;go_wp2_with fail;refine HC1.out.mono ?_;rintro e w2 ⟨rfl,hb⟩;have HB2:=hd_ (z0r HA.out hb);clear hb d0 d1;go_wp2_with fail;go_ret;exact⟨z7j HR.out.symm,HB2.out⟩
 subst h0;go_wp2_with fail;refine HC1.out.mono ?_;rintro e w2 ⟨rfl,hb⟩;have HA:=hd_ (z0r HA.out hb);have HB:=hd_ (HB.out.below hb HB.out.lt);clear hb d0 d1 HC1;have d2:w2.cell? ⟨w.heap.size,2,none⟩=some (.slice H hs.length c):=HB.out.cell 2;go_wp2_with fail;go_loopw [12] (fun i wr=>∃ k:Nat,i=.int .i64 k∧k≤hs.length∧Hid ((∀ j (hj:j<hs.length),j<k→z7e hs[j].1=0)∧Below w2.heap.size w2 wr)) (fun i _=>hs.length - (intOf i).toNat)
 case atStart=>exact⟨0,rfl,Nat.zero_le _,hd_ ⟨fun j _ h=>by omega,Below.refl _ _⟩⟩
 case round =>
  obtain⟨k,rfl,hk,HI⟩:=hrel;clear d2;by_cases hlt:k<hs.length
  ·have HHX:=hd_ (HH.out.below (z0r HA.out HI.out.2));obtain⟨ad,rfl,hab,s0,s1⟩:=HHX.out.at_ hlt;have HPK:=hd_ (HHX.out.2 hs[k] (List.getElem_mem hlt));have HNO:=hd_ (HN2.out k HPE.out hlt);have HYE:Hid (z7e hs[k].1=0→∀ j (hj:j<hs.length),j<k+1→z7e hs[j].1=0):=hd_ (fun h j hj hjk=>by
    by_cases e:j=k
    ·subst e;exact h
    ·exact HI.out.1 j hj (by omega))
   generalize hs[k]=q at s0 s1 HPK HNO HYE;obtain⟨q,Aq,cq⟩:=q;change wr.cell? _=some (.slice Aq q.parts.length cq) at s0;change wr.cell? _=some (.bool q.rest) at s1;have hX:Below w2.heap.size w2 (wr.alloc (.cells #[.slice Aq q.parts.length cq,.bool q.rest] 97)):=HI.out.2.alloc HI.out.2.size _;have hbq:Below wr.heap.size wr (wr.alloc (.cells #[.slice Aq q.parts.length cq,.bool q.rest] 97)):=(Below.refl _ _).alloc (Nat.le_refl _) _;have HCQ:=hd_ (zca q Aq cq (wr.alloc (.cells #[.slice Aq q.parts.length cq,.bool q.rest] 97)) (HPK.out.below hbq).1 HPK.out.small);have HX:=hd_ hX;clear hab hX hbq;obtain⟨qe,hqe⟩:∃ qe,z7e q=qe:=⟨_,rfl⟩;have HQE:=hd_ hqe;rw[hqe] at HCQ;clear hqe;have HLT:=hd_ hlt;by_cases h1:qe=0
   ·subst h1;have HN:=hd_ (HYE.out HQE.out);go_wp2_with fail;refine HCQ.out.mono ?_;rintro e w4 ⟨rfl,hb⟩;have HB4:=hd_ (z0r HX.out hb);clear hb s0 s1;go_wp2_with fail;go_roundw
    case rel=>exact⟨k+1,by go_num,by omega,hd_ ⟨HN.out,HB4.out⟩⟩
    case measure=>simp [intOf];omega
   ·have hq:(qe != 0)=true:=by simpa using h1
    have HR:=hd_ (HNO.out (by show z7e q≠0;rw[HQE.out];exact h1))
    clear h1;go_wp2_with fail;refine HCQ.out.mono ?_;rintro e w4 ⟨rfl,hb⟩;have HB4:=hd_ (z0r HA.out (z0r HX.out hb));clear hb s0 s1;go_wp2_with fail;go_ret;exact⟨z7j HR.out.symm,HB4.out⟩
  ·have hke:k=hs.length:=by omega
   subst hke;have HE:=hd_ (HN3.out HPE.out (fun j hj=>HI.out.1 j hj hj));have HBE:=hd_ (z0r HA.out HI.out.2);have d2:wr.cell? ⟨w.heap.size,2,none⟩=some (.slice H hs.length c):=(HB.out.below HI.out.2 HB.out.lt).cell 2;have hge:¬((hs.length:Int)<(hs.length:Int)):=by omega
   by_cases h6:64<hs.length
   ·have q6:decide ((64:Int)<(hs.length:Int))=true:=by simp;omega
    have q7:(64:Int)<(hs.length:Int):=by omega
    have HR:=hd_ (HE.out.trans (if_pos h6));clear h6;go_wp2_with fail;go_ret;exact⟨z7j HR.out.symm,HBE.out⟩
   ·have q6:decide ((64:Int)<(hs.length:Int))=false:=by simp;omega
    have q7:¬(64:Int)<(hs.length:Int):=by omega
    have HR:=hd_ (HE.out.trans (if_neg h6));clear h6;go_wp2_with fail;go_ret;exact⟨z7j HR.out.symm,HBE.out⟩
theorem znu (A B:Option Addr)(n m a b:Nat)(x y:Bool)(h0:Value)(w:World):Calls Tryz.prog 135 #[.agg #[(.slice A n a),(.bool x),(.slice B m b),(.bool y),h0]] w fun e w'=>e=.returned (.agg #[.bool false,(.slice A n a),(.bool x),(.slice B m b),(.bool y)])∧Below w.heap.size w w':=by
 have hB:=z0l w [(.slice A n a),(.bool x),(.slice B m b),(.bool y),h0] 100;have hA:Below w.heap.size w (w.alloc (.cells #[(.slice A n a),(.bool x),(.slice B m b),(.bool y),h0] 100)):=(Below.refl _ _).alloc (Nat.le_refl _) _;go_enter Tryz.func135,Tryz.ntmps135;go_upto_region 1 with fail;have hZ:=z0l (w.alloc (.cells #[(.slice A n a),(.bool x),(.slice B m b),(.bool y),h0] 100)) [.bool false,.slice none 0 0,.bool false,.slice none 0 0,.bool false] 119;rw[World.size_alloc] at hZ;have hB1:=hB.alloc (.cells #[.bool false,.slice none 0 0,.bool false,.slice none 0 0,.bool false] 119);have hA1:=hA.alloc (by simp:w.heap.size≤_) (.cells #[.bool false,.slice none 0 0,.bool false,.slice none 0 0,.bool false] 119)
 generalize (w.alloc (.cells #[(.slice A n a),(.bool x),(.slice B m b),(.bool y),h0] 100)).alloc (.cells #[.bool false,.slice none 0 0,.bool false,.slice none 0 0,.bool false] 119)=W1 at hZ hB1 hA1 ⊢;obtain⟨d0,d1,d2,d3⟩:=(⟨hB1.cell 0,hB1.cell 1,hB1.cell 2,hB1.cell 3⟩:W1.cell? ⟨w.heap.size,0,none⟩=some (.slice A n a)∧W1.cell? ⟨w.heap.size,1,none⟩=some (.bool x)∧W1.cell? ⟨w.heap.size,2,none⟩=some (.slice B m b)∧W1.cell? ⟨w.heap.size,3,none⟩=some (.bool y));obtain⟨z0,z1,z2,z3,z4⟩:=(⟨hZ.cell 0,hZ.cell 1,hZ.cell 2,hZ.cell 3,hZ.cell 4⟩:W1.cell? ⟨w.heap.size+1,0,none⟩=some (.bool false)∧W1.cell? ⟨w.heap.size+1,1,none⟩=some (.slice none 0 0)∧W1.cell? ⟨w.heap.size+1,2,none⟩=some (.bool false)∧W1.cell? ⟨w.heap.size+1,3,none⟩=some (.slice none 0 0)∧W1.cell? ⟨w.heap.size+1,4,none⟩=some (.bool false));obtain⟨y0,y1,y2,y3,y4⟩:=(⟨hZ.frozen 0,hZ.frozen 1,hZ.frozen 2,hZ.frozen 3,hZ.frozen 4⟩:W1.frozen? ⟨w.heap.size+1,0,none⟩=false∧W1.frozen? ⟨w.heap.size+1,1,none⟩=false∧W1.frozen? ⟨w.heap.size+1,2,none⟩=false∧W1.frozen? ⟨w.heap.size+1,3,none⟩=false∧W1.frozen? ⟨w.heap.size+1,4,none⟩=false);go_wp2_with fail;have hE:=((((hZ.set_ 0 (.bool false)).set_ 1 (.slice A n a)).set_ 2 (.bool x)).set_ 3 (.slice B m b)).set_ 4 (.bool y);have hb:=((((hA1.setCell (p:=⟨w.heap.size+1,0,none⟩) (by simp) (.bool false)).setCell (p:=⟨w.heap.size+1,1,none⟩) (by simp) (.slice A n a)).setCell (p:=⟨w.heap.size+1,2,none⟩) (by simp) (.bool x)).setCell (p:=⟨w.heap.size+1,3,none⟩) (by simp) (.slice B m b)).setCell (p:=⟨w.heap.size+1,4,none⟩) (by simp) (.bool y)
 generalize ((((W1.setCell ⟨w.heap.size+1,0,none⟩ (.bool false)).setCell ⟨w.heap.size+1,1,none⟩ (.slice A n a)).setCell ⟨w.heap.size+1,2,none⟩ (.bool x)).setCell ⟨w.heap.size+1,3,none⟩ (.slice B m b)).setCell ⟨w.heap.size+1,4,none⟩ (.bool y)=W3 at hE hb ⊢;have e0:=hE.cell 0;have e1:=hE.cell 1;have e2:=hE.cell 2;have e3:=hE.cell 3;have e4:=hE.cell 4;exact bodyPost_ret (v:=.agg #[.bool false,.slice A n a,.bool x,.slice B m b,.bool y]) (by simp [results,Tryz.results135,go_sem,e0,e1,e2,e3,e4]) rfl ⟨rfl,hb⟩
theorem znv (A H:Option Addr)(n a k c:Nat)(x y:Bool)(r0:Value)(w:World):Calls Tryz.prog 137 #[.agg #[.slice A n a,.bool x,r0,.bool y,.slice H k c]] w fun e w'=>e=.returned (.agg #[.slice A n a,.bool x,.slice H k c])∧Below w.heap.size w w':=by
 have hB:=z0l w [.slice A n a,.bool x,r0,.bool y,.slice H k c] 100;have hA:Below w.heap.size w (w.alloc (.cells #[.slice A n a,.bool x,r0,.bool y,.slice H k c] 100)):=(Below.refl _ _).alloc (Nat.le_refl _) _;go_enter Tryz.func137,Tryz.ntmps137;go_upto_region 1 with fail;have hZ:=z0l (w.alloc (.cells #[.slice A n a,.bool x,r0,.bool y,.slice H k c] 100)) [.slice none 0 0,.bool false,.slice none 0 0] 115;rw[World.size_alloc] at hZ;have hB1:=hB.alloc (.cells #[.slice none 0 0,.bool false,.slice none 0 0] 115);have hA1:=hA.alloc (by simp:w.heap.size≤_) (.cells #[.slice none 0 0,.bool false,.slice none 0 0] 115)
 generalize (w.alloc (.cells #[.slice A n a,.bool x,r0,.bool y,.slice H k c] 100)).alloc (.cells #[.slice none 0 0,.bool false,.slice none 0 0] 115)=W1 at hZ hB1 hA1 ⊢;obtain⟨d0,d1,d4⟩:=(⟨hB1.cell 0,hB1.cell 1,hB1.cell 4⟩:W1.cell? ⟨w.heap.size,0,none⟩=some (.slice A n a)∧W1.cell? ⟨w.heap.size,1,none⟩=some (.bool x)∧W1.cell? ⟨w.heap.size,4,none⟩=some (.slice H k c));obtain⟨z0,z1,z2⟩:=(⟨hZ.cell 0,hZ.cell 1,hZ.cell 2⟩:W1.cell? ⟨w.heap.size+1,0,none⟩=some (.slice none 0 0)∧W1.cell? ⟨w.heap.size+1,1,none⟩=some (.bool false)∧W1.cell? ⟨w.heap.size+1,2,none⟩=some (.slice none 0 0));obtain⟨y0,y1,y2⟩:=(⟨hZ.frozen 0,hZ.frozen 1,hZ.frozen 2⟩:W1.frozen? ⟨w.heap.size+1,0,none⟩=false∧W1.frozen? ⟨w.heap.size+1,1,none⟩=false∧W1.frozen? ⟨w.heap.size+1,2,none⟩=false);go_wp2_with fail;have hE:=((hZ.set_ 0 (.slice A n a)).set_ 1 (.bool x)).set_ 2 (.slice H k c);have hb:=((hA1.setCell (p:=⟨w.heap.size+1,0,none⟩) (by simp) (.slice A n a)).setCell (p:=⟨w.heap.size+1,1,none⟩) (by simp) (.bool x)).setCell (p:=⟨w.heap.size+1,2,none⟩) (by simp) (.slice H k c)
 generalize ((W1.setCell ⟨w.heap.size+1,0,none⟩ (.slice A n a)).setCell ⟨w.heap.size+1,1,none⟩ (.bool x)).setCell ⟨w.heap.size+1,2,none⟩ (.slice H k c)=W3 at hE hb ⊢;have e0:=hE.cell 0;have e1:=hE.cell 1;have e2:=hE.cell 2;exact bodyPost_ret (v:=.agg #[.slice A n a,.bool x,.slice H k c]) (by simp [results,Tryz.results137,go_sem,e0,e1,e2]) rfl ⟨rfl,hb⟩
end Go.Proofs.YtegeboijhifmcaaGreatDoor
