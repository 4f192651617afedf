/- A part. -/
import Derived.Test.YtijghobkkdbhnaaGreatDoorMcw30
set_option linter.unusedVariables false
set_option linter.unusedSimpArgs false
set_option maxHeartbeats 16000000
set_option maxRecDepth 100000
namespace Go.Proofs.YtijghobkkdbhnaaGreatDoor
open Go.RowKit
section
variable {u0 u1 u2 u3 u4 u5 u6 u7 u8 u9 gA gC gD gE gF gG gH gI gJ gK gL gM gN gO gP gQ gR gT gV gW gX gY gZ i6 i7 i8 ia ib ic ie ig ii ij ik il im io ip iq ir iu iv iw ix iy iz iA iB iC iD iE iF : Value}
def mvB (x y:Edt):Bool:=(decide (x.act=5) && decide (y.act=4) && decide (y.frm=x.path)) || (decide (x.act=4) && decide (y.act=5) && decide (y.path=x.frm))
theorem movedR5 (ops:Array Oper)(hops:Tryz.f158.body.bind (z0x 5)=some ops)(Q:Exit→Act→World→Prop)(g3 g7:Nat)(x y:Edt)(V:World)
  (h3:Blk V g3 100 [.string x.path,.int .i64 x.act,.int .i64 x.ty.base,.bool x.ty.k,.bool x.ty.l,.bool x.ty.x,.int .u64 x.sum,.int .i64 x.size,.int .i64 x.base,.string x.frm,.int .i64 x.fnum,.int .i64 x.fence]) (h7:Blk V g7 100 [.string y.path,.int .i64 y.act,.int .i64 y.ty.base,.bool y.ty.k,.bool y.ty.l,.bool y.ty.x,.int .u64 y.sum,.int .i64 y.size,.int .i64 y.base,.string y.frm,.int .i64 y.fnum,.int .i64 y.fence])
  (hQ:∀(eu ez eA eB eC eD eE eF eG eH eI eJ eK eL eM eN eO eP eQ eR eS eT eU eV eW eX eY eZ fd fe ff:Value),Q .normal ⟨#[u0,u1,u2,.pointer (some ⟨g3,0,none⟩),u4,u5,u6,.pointer (some ⟨g7,0,none⟩),u8,u9,gA,gC,gD,gE,gF,eu,ez,eA,eB,eC,eD,eE,eF,eG,eH,eI,eJ,eK,eL,eM,eN,eO,eP,eQ,eR,eS,eT,eU,eV,eW,eX,eY,eZ,fd,fe,ff,.bool (mvB x y),ip,iq,ir,iu,iv,iw,ix,iy,iz,iA,iB,iC,iD,iE,iF],[]⟩ V):
  (Code.region 5 ops false).wp Tryz.prog Q ⟨#[u0,u1,u2,.pointer (some ⟨g3,0,none⟩),u4,u5,u6,.pointer (some ⟨g7,0,none⟩),u8,u9,gA,gC,gD,gE,gF,gG,gH,gI,gJ,gK,gL,gM,gN,gO,gP,gQ,gR,gT,gV,gW,gX,gY,gZ,i6,i7,i8,ia,ib,ic,ie,ig,ii,ij,ik,il,im,io,ip,iq,ir,iu,iv,iw,ix,iy,iz,iA,iB,iC,iD,iE,iF],[]⟩ V:=by
 simp only[Tryz.f158,Option.bind_some,z0x] at hops
 simp at hops
 subst hops;have HQ:=hd_ hQ;clear hQ;obtain⟨a0,a1,a2,a3,a4,a5,a6,a7,a8,a9,a10,a11⟩:=z81 h3;obtain⟨b0,b1,b2,b3,b4,b5,b6,b7,b8,b9,b10,b11⟩:=z81 h7;have HE:Hid (mvB x y=((decide (x.act=5) && decide (y.act=4) && decide (y.frm=x.path)) || (decide (x.act=4) && decide (y.act=5) && decide (y.path=x.frm)))):=hd_ rfl;by_cases c5:x.act=5
 ·have q5:(x.act == 5)=true:=by simpa using c5
  have q4:(x.act == 4)=false:=by rw[c5];rfl
  by_cases y4:y.act=4
  ·have r4:(y.act == 4)=true:=by simpa using y4
   have sq:=zdq y.frm x.path;by_cases yp:y.frm=x.path
   ·rw[decide_eq_true yp] at sq;have e:mvB x y=true:=by rw[HE.out];simp [c5,y4,yp]
    rw[e] at HQ;clear c5 y4 yp e;go_wp2_with fail;exact HQ.out ..
   ·rw[decide_eq_false yp] at sq;have e:mvB x y=false:=by rw[HE.out];simp [c5,y4,yp]
    rw[e] at HQ;clear c5 y4 yp e;go_wp2_with fail;exact HQ.out ..
  ·have r4:(y.act == 4)=false:=by simpa using y4
   have e:mvB x y=false:=by rw[HE.out];simp [c5,y4]
   rw[e] at HQ;clear c5 y4 e;go_wp2_with fail;exact HQ.out ..
 ·have q5:(x.act == 5)=false:=by simpa using c5
  by_cases c4:x.act=4
  ·have q4:(x.act == 4)=true:=by simpa using c4
   by_cases y5:y.act=5
   ·have r5:(y.act == 5)=true:=by simpa using y5
    have sq:=zdq y.path x.frm;by_cases yp:y.path=x.frm
    ·rw[decide_eq_true yp] at sq;have e:mvB x y=true:=by rw[HE.out];simp [c5,c4,y5,yp]
     rw[e] at HQ;clear c5 c4 y5 yp e;go_wp2_with fail;exact HQ.out ..
    ·rw[decide_eq_false yp] at sq;have e:mvB x y=false:=by rw[HE.out];simp [c5,c4,y5,yp]
     rw[e] at HQ;clear c5 c4 y5 yp e;go_wp2_with fail;exact HQ.out ..
   ·have r5:(y.act == 5)=false:=by simpa using y5
    have e:mvB x y=false:=by rw[HE.out];simp [c5,c4,y5]
    rw[e] at HQ;clear c5 c4 y5 e;go_wp2_with fail;exact HQ.out ..
  ·have q4:(x.act == 4)=false:=by simpa using c4
   have e:mvB x y=false:=by rw[HE.out];simp [c5,c4]
   rw[e] at HQ;clear c5 c4 e;go_wp2_with fail;exact HQ.out ..
theorem zht (es:List Edt)(x:Edt)(k:Nat)(h:k<es.length):zhr (es.take (k+1)) x=zhr (es.take k) x+(if mvB x es[k] then 1 else 0):=by
 unfold zhr;rw[List.take_succ_eq_append_getElem h,List.countP_append,List.countP_cons,List.countP_nil,Nat.zero_add];rfl
theorem zhu (es:List Edt)(x:Edt)(k:Nat):zhr (es.take k) x≤k:=by
 unfold zhr;have:=List.countP_le_length (p:=fun y:Edt=>(decide (x.act=5) && decide (y.act=4) && decide (y.frm=x.path)) || (decide (x.act=4) && decide (y.act=5) && decide (y.path=x.frm))) (l:=es.take k);rw[List.length_take] at this;omega
theorem zhv (es:List Edt)(num:Int)(cl tx:ByteArray)(Ae Ac:Option Addr)(nc ce cc:Nat)(x:Edt)(w:World)(hE:z4d w (.slice Ae es.length ce) es)(hl:es.length≤100000):
  Calls Tryz.prog 158 #[.agg #[.int .i64 num,.string cl,.string tx,.slice Ae es.length ce,.slice Ac nc cc],.agg #[.string x.path,.int .i64 x.act,.int .i64 x.ty.base,.bool x.ty.k,.bool x.ty.l,.bool x.ty.x,.int .u64 x.sum,.int .i64 x.size,.int .i64 x.base,.string x.frm,.int .i64 x.fnum,.int .i64 x.fence]] w fun e w'=>e=.returned (.bool (zhs es x))∧zB w w':=by
 have HE:=hd_ hE;clear hE;have hb0:zB w ((w.alloc (.cells #[.int .i64 num,.string cl,.string tx,.slice Ae es.length ce,.slice Ac nc cc] 105)).alloc (.cells #[.string x.path,.int .i64 x.act,.int .i64 x.ty.base,.bool x.ty.k,.bool x.ty.l,.bool x.ty.x,.int .u64 x.sum,.int .i64 x.size,.int .i64 x.base,.string x.frm,.int .i64 x.fnum,.int .i64 x.fence] 100)):=((Below.refl _ _).alloc (Nat.le_refl _) _).alloc (by simp) _
 have hV:Blk ((w.alloc (.cells #[.int .i64 num,.string cl,.string tx,.slice Ae es.length ce,.slice Ac nc cc] 105)).alloc (.cells #[.string x.path,.int .i64 x.act,.int .i64 x.ty.base,.bool x.ty.k,.bool x.ty.l,.bool x.ty.x,.int .u64 x.sum,.int .i64 x.size,.int .i64 x.base,.string x.frm,.int .i64 x.fnum,.int .i64 x.fence] 100)) (w.heap.size+1) 100 [.string x.path,.int .i64 x.act,.int .i64 x.ty.base,.bool x.ty.k,.bool x.ty.l,.bool x.ty.x,.int .u64 x.sum,.int .i64 x.size,.int .i64 x.base,.string x.frm,.int .i64 x.fnum,.int .i64 x.fence]:=by
  have h1:=z0l (w.alloc (.cells #[.int .i64 num,.string cl,.string tx,.slice Ae es.length ce,.slice Ac nc cc] 105)) [.string x.path,.int .i64 x.act,.int .i64 x.ty.base,.bool x.ty.k,.bool x.ty.l,.bool x.ty.x,.int .u64 x.sum,.int .i64 x.size,.int .i64 x.base,.string x.frm,.int .i64 x.fnum,.int .i64 x.fence] 100;simp only[World.size_alloc] at h1
  exact h1
 have hB:Blk ((w.alloc (.cells #[.int .i64 num,.string cl,.string tx,.slice Ae es.length ce,.slice Ac nc cc] 105)).alloc (.cells #[.string x.path,.int .i64 x.act,.int .i64 x.ty.base,.bool x.ty.k,.bool x.ty.l,.bool x.ty.x,.int .u64 x.sum,.int .i64 x.size,.int .i64 x.base,.string x.frm,.int .i64 x.fnum,.int .i64 x.fence] 100)) w.heap.size 105 [.int .i64 num,.string cl,.string tx,.slice Ae es.length ce,.slice Ac nc cc]:=(z0l w _ _).alloc _;go_enter Tryz.func158,Tryz.ntmps158;go_upto_region 1 with fail;generalize (w.alloc (.cells #[.int .i64 num,.string cl,.string tx,.slice Ae es.length ce,.slice Ac nc cc] 105)).alloc (.cells #[.string x.path,.int .i64 x.act,.int .i64 x.ty.base,.bool x.ty.k,.bool x.ty.l,.bool x.ty.x,.int .u64 x.sum,.int .i64 x.size,.int .i64 x.base,.string x.frm,.int .i64 x.fnum,.int .i64 x.fence] 100)=W1 at hb0 hV hB ⊢;obtain⟨d0,d1,d2,d3,d4⟩:=zhi hB;have HV:=hd_ hV;have Hb0:=hd_ hb0;clear hb0 hV hB;go_wp2_with fail;clear d0 d1 d2 d3 d4;go_loopw [5,11] (fun n s wr=>∃ k:Nat,s=.int .i64 k∧n=.int .i64 (zhr (es.take k) x)∧k≤es.length∧Hid (zB W1 wr)) (fun _ s _=>es.length - (intOf s).toNat)
 case atStart=>exact⟨0,rfl,by rw[List.take_zero];rfl,Nat.zero_le _,Below.refl _ _⟩
 case round =>
  obtain⟨k,rfl,rfl,hk,HI⟩:=hrel;by_cases hlt:k<es.length
  ·obtain⟨ad,rfl,hab,hld⟩:=z4d.at_ (HE.out.below (z0r Hb0.out HI.out)) hlt;have HN:=hd_ (zht es x k hlt);have hle:=zhu es x k;generalize es[k]=y at hld HN;obtain⟨x0,x1,x2,x3,x4,x5,x6,x7,x8,x9,x10,x11⟩:=hld;have hY:=z0l wr [.string y.path,.int .i64 y.act,.int .i64 y.ty.base,.bool y.ty.k,.bool y.ty.l,.bool y.ty.x,.int .u64 y.sum,.int .i64 y.size,.int .i64 y.base,.string y.frm,.int .i64 y.fnum,.int .i64 y.fence] 100;have hA1:=HI.out.alloc HI.out.size (.cells #[.string y.path,.int .i64 y.act,.int .i64 y.ty.base,.bool y.ty.k,.bool y.ty.l,.bool y.ty.x,.int .u64 y.sum,.int .i64 y.size,.int .i64 y.base,.string y.frm,.int .i64 y.fnum,.int .i64 y.fence] 100);go_upto_region 5 with fail;clear x0 x1 x2 x3 x4 x5 x6 x7 x8 x9 x10 x11;generalize wr.alloc (.cells #[.string y.path,.int .i64 y.act,.int .i64 y.ty.base,.bool y.ty.k,.bool y.ty.l,.bool y.ty.x,.int .u64 y.sum,.int .i64 y.size,.int .i64 y.base,.string y.frm,.int .i64 y.fnum,.int .i64 y.fence] 100)=V1 at hY hA1 ⊢;generalize wr.heap.size=g7 at hY ⊢;have HA1:=hd_ hA1;have HY:=hd_ hY;clear hY hA1;refine movedR5 _ (by kernel_rfl) _ (w.heap.size+1) g7 x y V1 (HV.out.below HA1.out HV.out.lt) HY.out ?_
   intro eu ez eA eB eC eD eE eF eG eH eI eJ eK eL eM eN eO eP eQ eR eS eT eU eV eW eX eY eZ fd fe ff;cases hm:mvB x y
   ·rw[hm] at HN;clear hm;go_wp2_with fail;go_roundw
    case rel=>exact⟨k+1,by go_num,by rw[HN.out];simp,by omega,HA1.out⟩
    case measure=>simp [intOf];omega
   ·rw[hm] at HN;clear hm;go_wp2_with fail;go_roundw
    case rel=>exact⟨k+1,by go_num,by rw[HN.out];simp,by omega,HA1.out⟩
    case measure=>simp [intOf];omega
  ·have hke:k=es.length:=by omega
   subst hke;obtain⟨a0,a1,a2,a3,a4,a5,a6,a7,a8,a9,a10,a11⟩:=z81 (HV.out.below HI.out HV.out.lt);have HMB:Hid (zhs es x=(decide (zhr es x=1) || (decide (x.act≠5) && decide (x.act≠4)))):=hd_ rfl;have HB:=hd_ (z0r Hb0.out HI.out);rw[List.take_length];generalize zhr es x=m at HMB ⊢;by_cases h1:m=1
   ·have HV:Hid (zhs es x=true):=hd_ (by rw[HMB.out];simp [h1])
    subst h1;go_wp2_with fail;go_ret;exact⟨z13 HV.out.symm,HB.out⟩
   ·have q1:((m:Int) == 1)=false:=by simp;omega
    by_cases h5:x.act=5
    ·have q5:(x.act != 5)=false:=by simpa using h5
     have HV:Hid (zhs es x=false):=hd_ (by rw[HMB.out];simp [h1,h5])
     clear h1 h5;go_wp2_with fail;go_ret;exact⟨z13 HV.out.symm,HB.out⟩
    ·have q5:(x.act != 5)=true:=by simpa using h5
     by_cases h4:x.act=4
     ·have q4:(x.act != 4)=false:=by simpa using h4
      have HV:Hid (zhs es x=false):=hd_ (by rw[HMB.out];simp [h1,h5,h4])
      clear h1 h5 h4;go_wp2_with fail;go_ret;exact⟨z13 HV.out.symm,HB.out⟩
     ·have q4:(x.act != 4)=true:=by simpa using h4
      have HV:Hid (zhs es x=true):=hd_ (by rw[HMB.out];simp [h1,h5,h4])
      clear h1 h5 h4;go_wp2_with fail;go_ret;exact⟨z13 HV.out.symm,HB.out⟩
end
open Go.Sort (grow)
def flH (h:Hav):Fl:=(h.path,h.loc)
def prF (pl:List Syn)(L:List Nat)(k:Nat):List Syn:=(L.take k).filterMap fun i=>pl[i]?
theorem zkc {pl:List Syn}{L:List Nat}{k i:Nat}(hk:k<L.length)(hi:i<pl.length)(e:L[k]=i):prF pl L (k+1)=prF pl L k++[pl[i]]:=by
 unfold prF;rw[List.take_succ_eq_append_getElem hk,List.filterMap_append,e];simp [List.getElem?_eq_getElem hi]
structure Bk4 (X wr:World)(B B2:Nat)(Ap:Option Addr)(c bC:Nat)(hs:List Hav)(pl:List Syn)(N:Nat)(b:ByteArray→Bool)(QH:List Hav)(qv:Value):Prop where
 mem:Bk3 X wr B B2 Ap c bC pl b QH qv
 st:BkSt hs pl b (QH.map flH)
 num:QH.length+zjs b pl≤N
structure Bk5 (X wr:World)(B B2:Nat)(Ap:Option Addr)(c bC g13:Nat)(hs:List Hav)(pl:List Syn)(N:Nat)(b:ByteArray→Bool)(QH:List Hav)(qv:Value)(h:Hav)(Ar:Option Addr)(mr k:Nat):Prop where
 mem:Bk3 X wr B B2 Ap c bC pl b QH qv
 st:BkIn hs pl b (QH.map flH) h.path h.loc (prF pl (zk0 pl pl.length h.loc) k)
 num:QH.length+zjs b pl≤N
 box:Blk wr g13 96 [.string h.path,.int .i64 h.num,.string h.loc]
 far:B2≤g13
 row:wr.ownsRow X.heap.size 3 1 (.slice Ar (zk0 pl pl.length h.loc).length mr) (zk0 pl pl.length h.loc).length (zjv (zk0 pl pl.length h.loc))
 rup:∀ x,(Value.slice Ar (zk0 pl pl.length h.loc).length mr).ownBlock=some x→x<B2∧X.heap.size≤x
 qne:qv.ownBlock≠some g13
section
variable {X wr wx : World} {B B2 g c bC g13 N k i mr : Nat} {Ap : Option Addr} {hs : List Hav} {pl : List Syn} {b : ByteArray → Bool} {QH : List Hav} {qv : Value} {h : Hav} {Ar : Option Addr}
theorem Bk5.under (H:Bk5 X wr B B2 Ap c bC g13 hs pl N b QH qv h Ar mr k)(hb:zB wr wx)(hB:B≤B2):Bk5 X wx B B2 Ap c bC g13 hs pl N b QH qv h Ar mr k:=⟨H.mem.under hb hB,H.st,H.num,H.box.below hb H.box.lt,H.far,z0n H.row hb,H.rup,H.qne⟩
theorem Bk5.at_ (H:Bk5 X wr B B2 Ap c bC g13 hs pl N b QH qv h Ar mr k)(hk:k<(zk0 pl pl.length h.loc).length):∃ ad,Ar=some ad∧ad.block<wr.heap.size∧wr.cell? (ad.add k)=some (.int .i64 ((zk0 pl pl.length h.loc)[k]:Nat)):=by
 obtain⟨A',m',e,-,-,-,-,hx⟩:=Row.of_own H.row;injection e with e1 e2 e3
 obtain⟨ad,e4,hb,hc⟩:=hx (by omega)
 refine⟨ad,by rw[e1,e4],hb,hc k _ ?_⟩
 unfold zjv;rw[List.getElem?_map,List.getElem?_eq_getElem hk];rfl
theorem Bk3.at3 (H:Bk3 X wr B B2 (some ⟨g,0,none⟩) c bC pl b QH qv)(hi:i<pl.length):z58 wr ⟨g,i * 5,none⟩ (zdy b pl[i])∧wr.frozen? ⟨g,i * 5,none⟩=false:=by
 have hk2:i<(zdz b pl).length:=by rw[markL_len];exact hi
 have e:(zdz b pl)[i]=zdy b pl[i]:=by
  show (pl.map (zdy b))[i]'(by rw[List.length_map];exact hi)=_
  rw[List.getElem_map]
 have:=zj7.cell H.own hk2;rw[e] at this;exact this
theorem Bk5.skip (H:Bk5 X wr B B2 Ap c bC g13 hs pl N b QH qv h Ar mr k)(hk:k<(zk0 pl pl.length h.loc).length)(hi:i<pl.length)(e:(zk0 pl pl.length h.loc)[k]=i)(hx:pl[i].path=h.path∨z3t pl[i].kind=true∨b pl[i].path=true):
  Bk5 X wr B B2 Ap c bC g13 hs pl N b QH qv h Ar mr (k+1):=⟨H.mem,by rw[zkc hk hi e];exact bk_skip H.st hx,H.num,H.box,H.far,H.row,H.rup,H.qne⟩
theorem com_at (hk:k<(zk0 pl pl.length h.loc).length):∃ i,∃ hi:i<pl.length,(zk0 pl pl.length h.loc)[k]=i∧pl[i].dst=h.loc∧pl[i].dst≠z2q:=by
 obtain⟨h1,x,h2,h3,h4⟩:=comF_lt (List.getElem_mem hk);refine⟨_,h1,rfl,?_⟩;rw[List.getElem?_eq_getElem h1] at h2;injection h2 with h2
 rw[h2];exact⟨h3,h4⟩
theorem Bk5.set_ (H:Bk5 X wr B B2 Ap c bC g13 hs pl N b QH qv h Ar mr k)(hg:g<X.heap.size)(hX2:X.heap.size≤B2)(u:Value):Blk (wr.setCell ⟨g,i * 5,none⟩ u) g13 96 [.string h.path,.int .i64 h.num,.string h.loc]∧(wr.setCell ⟨g,i * 5,none⟩ u).ownsRow X.heap.size 3 1 (.slice Ar (zk0 pl pl.length h.loc).length mr) (zk0 pl pl.length h.loc).length (zjv (zk0 pl pl.length h.loc)):=
 ⟨Blk.far H.box (by show g≠g13;have:=H.far;omega) u,z4x H.row (p:=⟨g,i * 5,none⟩) (fun e=>by have:=(H.rup g e).2;omega) u⟩
theorem Bk5.markN (H:Bk5 X wr B B2 (some ⟨g,0,none⟩) c bC g13 hs pl N b QH qv h Ar mr k)(hOk:zek hs)(hsrt:z6j pl)(hfrm:∀ x∈pl,x.frm=zjg hs x.path)(hB:B≤g)(hg:g<X.heap.size)(hX2:X.heap.size≤B2)(hC:X.heap.size≤bC)
  (hk:k<(zk0 pl pl.length h.loc).length) (hi:i<pl.length) (e:(zk0 pl pl.length h.loc)[k]=i) (hl:pl[i].dst=h.loc) (hd:pl[i].dst≠z2q) (hp:pl[i].path≠h.path) (hst:z3t pl[i].kind=false) (hb:b pl[i].path=false) (hf:pl[i].frm=z2q):
  Bk5 X (wr.setCell ⟨g,i * 5,none⟩ (.int .i64 5)) B B2 (some ⟨g,0,none⟩) c bC g13 hs pl N (setB b pl[i].path) QH qv h Ar mr (k+1)∧QH.length+zjs (setB b pl[i].path) pl≤QH.length+zjs b pl:=by
 have hm:=zjr hsrt hOk hfrm H.st (List.getElem_mem hi) hp hst hd hl;rw[if_pos hf,← zkc hk hi e] at hm;have hn:=zjt (List.getElem_mem hi) hst hb;have hnum:=H.num;exact⟨⟨H.mem.mark_ hsrt hi hg hB hX2 hC,hm,by omega,(H.set_ hg hX2 _).1,H.far,(H.set_ hg hX2 _).2,H.rup,H.qne⟩,by omega⟩
theorem Bk5.markY {A':Option Addr}{c':Nat}(H:Bk5 X wr B B2 (some ⟨g,0,none⟩) c bC g13 hs pl N b QH qv h Ar mr k)(hOk:zek hs)(hsrt:z6j pl)(hfrm:∀ x∈pl,x.frm=zjg hs x.path)(hB:B≤g)(hg:g<X.heap.size)(hX2:X.heap.size≤B2)(hC:X.heap.size≤bC)
  (hk:k<(zk0 pl pl.length h.loc).length) (hi:i<pl.length) (e:(zk0 pl pl.length h.loc)[k]=i) (hl:pl[i].dst=h.loc) (hd:pl[i].dst≠z2q) (hp:pl[i].path≠h.path) (hst:z3t pl[i].kind=false) (hb:b pl[i].path=false) (hf:¬ pl[i].frm=z2q)
  (hq:zjd wx B2 96 3 (.slice A' (QH.length+1) c') (QH.length+1) (QH.flatMap Hav.cells++[.string pl[i].path,.int .i64 0,.string pl[i].frm])) (hs2:zkb (wr.setCell ⟨g,i * 5,none⟩ (.int .i64 5)) wx qv) (hob:(Value.slice A' (QH.length+1) c').ownBlock=qv.ownBlock∨∃ x,(Value.slice A' (QH.length+1) c').ownBlock=some x∧(wr.setCell ⟨g,i * 5,none⟩ (.int .i64 5)).heap.size≤x):
  Bk5 X wx B B2 (some ⟨g,0,none⟩) c bC g13 hs pl N (setB b pl[i].path) (QH++[⟨pl[i].path,0,pl[i].frm⟩]) (.slice A' (QH.length+1) c') h Ar mr (k+1)∧(QH.length+1)+zjs (setB b pl[i].path) pl≤QH.length+zjs b pl:=by
 have hm:=zjr hsrt hOk hfrm H.st (List.getElem_mem hi) hp hst hd hl;rw[if_neg hf,← zkc hk hi e] at hm;have hn:=zjt (List.getElem_mem hi) hst hb;have hnum:=H.num;have hm3:=H.mem.mark_ hsrt hi hg hB hX2 hC;obtain⟨b1,b2⟩:=H.set_ (i:=i) hg hX2 (.int .i64 5);have hlt:=H.mem.que.lt;refine⟨⟨hm3.push (y:=⟨pl[i].path,0,pl[i].frm⟩) (by omega) (fun x e=>by injection e with e;have e':g=x:=e;omega) hq hs2,?_,by rw[List.length_append];simp;omega,?_,H.far,?_,H.rup,?_⟩,by omega⟩
 ·rw[List.map_append];exact hm
 ·exact (hs2.block b1.lt H.qne).trans b1
 ·refine⟨b2.1,?_⟩;rcases b2.2 with e4 | ⟨g',cap,cur,e1,h1,h2,h3⟩
  ·exact .inl e4
  ·refine .inr ⟨g',cap,cur,e1,h1,(hs2.block (Array.getElem?_eq_some_iff.1 h2).1 (fun e2=>?_)).trans h2,h3⟩;have a1:=(hlt g' e2).1;have a2:=(H.rup g' (by rw[e1];rfl)).1
   omega
 ·rcases hob with e5 | ⟨x,e5,h5⟩
  ·rw[e5];exact H.qne
  ·rw[e5];intro e6;injection e6 with e6;have:=b1.lt;omega
end
theorem bkT17 (T:Code)(hT:Tryz.f47.body.bind (zhg 17)=some T)(R:Ending→World→Prop)(X w:World)(B B2 g c bC N:Nat)(Ap:Option Addr)(hs:List Hav)(pl:List Syn)(hAp:0<pl.length→Ap=some ⟨g,0,none⟩)(QH:List Hav)(Aq:Option Addr)(cq:Nat)
  (hI:Bk4 X w B B2 Ap c bC hs pl N (fun _=>false) QH (.slice Aq QH.length cq)) (hOk:zek hs) (hsrt:z6j pl) (hfrm:∀ x∈pl,x.frm=zjg hs x.path)
  (hB:B≤g) (hg:g<X.heap.size) (hX2:X.heap.size≤B2) (hC:X.heap.size≤bC) (hn:pl.length≤1000000) (hN:N≤1000000)
  (hR:∀ w',zj7 w' B (.slice Ap pl.length c) (zdz (blB hs pl) pl)→Below B X w'→R (.returned (.tuple #[])) w')
  (u0 u2 u3 u4 u6 u7 u9 gA gC gD gE gF gG gH gI gJ gK gL gM gN gO gP gQ gR gT gV gW gX gY gZ i6 i7 i8 ia ib ic ie ig ii ij ik il im io ip iq ir iu iv iw ix iy iz iA iB iC iD iE iF iG iH iI iJ iK iL iM iN iO iP iQ iR iS iT iU iV iW iX iY iZ j0 j1 j2 j5 j6 j7 j8 j9 jb jd jf jg jh ji jj jk jl jm bE bF bG bH bI bJ bK bL bM bN bO bP bQ bT bU bV bW bX bY bZ cj ck cn cx cy cz cA:Value):
  T.wp Tryz.prog (bodyPost Tryz.prog Tryz.f47 R) ⟨#[u0,.slice Ap pl.length c,u2,u3,u4,.map (some bC),u6,u7,.slice Aq QH.length cq,u9,gA,gC,gD,gE,gF,gG,gH,gI,gJ,gK,gL,gM,gN,gO,gP,gQ,gR,gT,gV,gW,gX,gY,gZ,i6,i7,i8,ia,ib,ic,ie,ig,ii,ij,ik,il,im,io,ip,iq,ir,iu,iv,iw,ix,iy,iz,iA,iB,iC,iD,iE,iF,iG,iH,iI,iJ,iK,iL,iM,iN,iO,iP,iQ,iR,iS,iT,iU,iV,iW,iX,iY,iZ,j0,j1,j2,j5,j6,j7,j8,j9,jb,jd,jf,jg,jh,ji,jj,jk,jl,jm,bE,bF,bG,bH,bI,bJ,bK,bL,bM,bN,bO,bP,bQ,bT,bU,bV,bW,bX,bY,bZ,cj,ck,cn,cx,cy,cz,cA],[]⟩ w:=by
 simp only[Tryz.f47,Option.bind_some,zhg,zhf] at hT
 simp at hT
 subst hT;have HI:=hd_ hI;have HOK:=hd_ hOk;have HSRT:=hd_ hsrt;have HFRM:=hd_ hfrm;have HR:=hd_ hR;have hBB:B≤B2:=by omega
 clear hI hOk hsrt hfrm hR;go_wp2_with fail;go_loopg [8] (N+1) (fun gk q wr=>∃(b:ByteArray→Bool) (QH:List Hav) (A:Option Addr) (cq:Nat),q=.slice A QH.length cq∧QH.length+zjs b pl<gk∧Hid (Bk4 X wr B B2 Ap c bC hs pl N b QH q))
 case atStart=>exact⟨fun _=>false,QH,Aq,cq,rfl,by have:=HI.out.num;omega,HI⟩
 case round =>
  clear HI;obtain⟨b,QH,A,cq,rfl,hgk,HS⟩:=hrel;cases QH with
  | nil =>
   have HF:=hd_ (HR.out wr (by rw[← bk_over (by have:=HS.out.st;exact this)];exact HS.out.mem.own) HS.out.mem.low)
   clear HS;go_wp2_with fail;go_end0
   exact HF.out
  | cons h Q' =>
   have hqq:zjd wr B2 96 3 (.slice A (Q'.length+1) cq) (Q'.length+1) ((h :: Q').flatMap Hav.cells):=HS.out.mem.que;have hrow:z4h wr (.slice A (Q'.length+1) cq) (h :: Q'):=hqq.row;obtain⟨-,ad,rfl,hab,s0,s1,s2⟩:=hrow.head;have hA:zB wr (wr.alloc (.cells #[.string h.path,.int .i64 h.num,.string h.loc] 96)):=(Below.refl _ _).alloc (Nat.le_refl _) _;obtain⟨Ar,mr,hlk,hrw,hru,-⟩:=(HS.out.mem.com.keep (fun x hx _=>hA.block x (Nat.lt_of_lt_of_le hx HS.out.mem.b2))).look h.loc;have hpop:Bk3 X wr B B2 Ap c bC pl b (h :: Q') (.slice (some ad) (Q'.length+1) cq):=HS.out.mem;have hqlt:=hqq.lt;have HS5:Hid (Bk5 X (wr.alloc (.cells #[.string h.path,.int .i64 h.num,.string h.loc] 96)) B B2 Ap c bC wr.heap.size hs pl N b Q' (.slice (if cq=1 then some ad else some ⟨ad.block,ad.off+3,none⟩) Q'.length (cq - 1)) h Ar mr 0):=hd_
    ⟨(hpop.pop).under hA hBB,by have:=HS.out.st;rw[List.map_cons] at this;exact bk_pop this,by have:=HS.out.num;rw[List.length_cons] at this;omega,z0l wr _ _,HS.out.mem.b2,hrw,hru,by
     intro e;have hlt:ad.block<wr.heap.size:=hab;split at e
     ·injection e with e;omega
     ·injection e with e
      have e':ad.block=wr.heap.size:=e;omega⟩
   have hz:(0:Int)<((Q'.length+1:Nat):Int):=by omega
   have hgk2:Q'.length+zjs b pl+1<gk:=by rw[List.length_cons] at hgk;omega
   have HLK:=hd_ hlk;clear hA hlk hrw hru hpop hqlt hqq hrow HS hgk;dsimp only [List.length_cons]
   go_upto_region 20 with fail;have hl:=HLK.out _ rfl;generalize (if cq=1 then some ad else some ⟨ad.block,ad.off+3,none⟩)=A1 at HS5 ⊢;generalize cq - 1=c1 at HS5 ⊢;generalize wr.heap.size=g13 at HS5 ⊢;generalize wr.alloc (.cells #[.string h.path,.int .i64 h.num,.string h.loc] 96)=W1 at HS5 hl ⊢;clear HLK hab s0 s1 s2 hz;have d2:W1.cell? ⟨g13,2,none⟩=some (.string h.loc):=HS5.out.box.cell 2;obtain⟨L,hL⟩:∃ L,zk0 pl pl.length h.loc=L:=⟨_,rfl⟩;have hLb:L.length≤1000000:=by rw[← hL];exact Nat.le_trans (zk2 _ _ _) hn
   have HL:=hd_ hL;rw[hL] at hl;clear hL;go_wp2_with fail;clear hl d2;go_loopw [8,83] (fun q i wq=>∃(b:ByteArray→Bool) (QH:List Hav) (A:Option Addr) (cq k:Nat),q=.slice A QH.length cq∧i=.int .i64 k∧k≤L.length∧QH.length+zjs b pl+1<gk∧Hid (Bk5 X wq B B2 Ap c bC g13 hs pl N b QH q h Ar mr k)) (fun _ i _=>L.length - (intOf i).toNat)
   case atStart=>exact⟨b,Q',_,_,0,rfl,rfl,Nat.zero_le _,hgk2,HS5⟩
   case round =>
    clear HS5;obtain⟨b,QH,A,cq,k,rfl,rfl,hk,hgk,HJ⟩:=hrel;by_cases hlt:k<L.length
    ·have HLT2:=hd_ hlt;have hlt2:k<(zk0 pl pl.length h.loc).length:=by rw[HL.out];exact hlt
     obtain⟨i,hi,hki,hdl,hde⟩:=com_at hlt2;obtain⟨ad2,rfl,hab,sI⟩:=HJ.out.at_ hlt2;rw[hki] at sI;have HKI:Hid (∀ hh:k<(zk0 pl pl.length h.loc).length,(zk0 pl pl.length h.loc)[k]=i):=hd_ (fun _=>hki);have HLT:=hd_ hlt2;have HDL:=hd_ hdl;have HDE:=hd_ hde;obtain rfl:=hAp (by omega)
     obtain⟨hsy,-⟩:=HJ.out.mem.at3 hi;have HSY:=hd_ hsy;clear hki hlt2 hdl hde hab hsy;go_upto_region 23 with fail;refine bkR23 _ (by kernel_rfl) _ wr g pl.length c i g13 (zdy b pl[i]) h.path HSY.out (HJ.out.box.cell 0) hi ?_
     intro gb gf gg gh gi gj gm gn gt gu gx gy gz aa w2 hb2;have HJ2:=hd_ (HJ.out.under hb2 hBB);have HPA:=hd_ (ze0 b pl[i]);have HMS:=hd_ (ze2 b pl[i]);clear HSY HJ hb2 sI;cases hbb:(decide ((zdy b pl[i]).path=h.path) || z3t (zdy b pl[i]).kind) with
     | true =>
      have HN:=hd_ (HJ2.out.skip HLT.out hi (HKI.out _) (by
       rcases Bool.or_eq_true_iff.1 hbb with e | e
       ·exact .inl (by rw[← HPA.out];exact of_decide_eq_true e)
       ·rw[HMS.out] at e;rcases Bool.or_eq_true_iff.1 e with e | e
        ·exact .inr (.inr e)
        ·exact .inr (.inl e)))
      clear hbb;go_wp2_with fail;go_roundw
      case rel=>exact⟨b,QH,A,cq,k+1,rfl,by go_num,by have:=HLT2.out;omega,hgk,HN⟩
      case measure=>have:=HLT2.out;simp [intOf];omega
     | false =>
      obtain⟨e1,e2⟩:=(Bool.or_eq_false_iff).1 hbb;have hp:pl[i].path≠h.path:=by
       rw[← HPA.out];exact of_decide_eq_false e1
      rw[HMS.out] at e2;obtain⟨e3,e4⟩:=(Bool.or_eq_false_iff).1 e2;have HP:=hd_ hp;have HE3:=hd_ e3;have HE4:=hd_ e4;have HM3:=hd_ (HJ2.out.mem.mark_ HSRT.out hi hg hB hX2 hC);obtain⟨⟨y0,-,-,-,-⟩,fz⟩:=HJ2.out.mem.at3 hi;clear hbb e1 e2 e3 e4 hp;go_upto_region 25 with fail;clear y0 fz;obtain⟨⟨-,-,-,y3,-⟩,-⟩:=HM3.out.at3 hi;rw[(ze1 _ _).2.1] at y3;by_cases hf:pl[i].frm=z2q
      ·obtain⟨HN,hnum⟩:=HJ2.out.markN HOK.out HSRT.out HFRM.out hB hg hX2 hC HLT.out hi (HKI.out _) HDL.out HDE.out HP.out HE4.out HE3.out hf;have HN:=hd_ HN;obtain⟨s1,s2⟩:=z40 hf;clear HM3 hf;generalize w2.setCell ⟨g,i * 5,none⟩ (.int .i64 5)=W3 at HN y3 ⊢;generalize setB b pl[i].path=b2 at HN hnum;generalize pl[i].frm=fr at y3 s1 s2;go_wp2_with fail;go_roundw
       case rel=>exact⟨b2,QH,A,cq,k+1,rfl,by go_num,by have:=HLT2.out;omega,by omega,HN⟩
       case measure=>have:=HLT2.out;simp [intOf];omega
      ·have HF:=hd_ hf;obtain⟨s1,s2⟩:=z41 hf;have HY:=hd_ (fun(A':Option Addr) (c':Nat) (wx:World) h1 h2 h3=>HJ2.out.markY (A':=A') (c':=c') (wx:=wx) HOK.out HSRT.out HFRM.out hB hg hX2 hC HLT.out hi (HKI.out _) HDL.out HDE.out HP.out HE4.out HE3.out HF.out h1 h2 h3);have HQL:=hd_ (show QH.length≤1000000 by have:=HJ2.out.num;omega)
       obtain⟨⟨-,y1,-,-,-⟩,-⟩:=HM3.out.at3 hi;rw[ze0] at y1;have HY1:=hd_ y1;have HY3:=hd_ y3;have HI2:=hd_ hi;clear hf y1;generalize w2.setCell ⟨g,i * 5,none⟩ (.int .i64 5)=W3 at HM3 HY HY1 HY3 y3 ⊢;generalize setB b pl[i].path=b2 at HY HM3;generalize pl[i].frm=fr at HY y3 HY3 s1 s2;generalize pl[i].path=pt at HY HY1;go_upto_region 26 with fail;refine bkR26 _ (by kernel_rfl) _ W3 g pl.length c i QH.length cq B2 A (QH.flatMap Hav.cells) pt fr HM3.out.que HY1.out HY3.out HI2.out HM3.out.b2 (by omega) (by have:=HQL.out;omega) ?_
       intro ar au aw ax ay az aA aB aC aD aE aF aG aH A' c' w4 HO;obtain⟨HN,hnum⟩:=HY.out A' c' w4 HO.out.1 HO.out.2.1 HO.out.2.2;have HN:=hd_ HN;clear HY HO HM3;go_wp2_with fail;go_roundw
       case rel=>exact⟨b2,QH++[⟨pt,0,fr⟩],A',c',k+1,by rw[List.length_append];rfl,by go_num,by have:=HLT2.out;omega,by rw[List.length_append];simp;omega,HN⟩
       case measure=>have:=HLT2.out;simp [intOf];omega
    ·have hke:k=L.length:=by omega
     have HF:Hid (Bk4 X wr B B2 Ap c bC hs pl N b QH (.slice A QH.length cq)):=hd_ ⟨HJ.out.mem,bk_end HOK.out HJ.out.st (fun x hx hd hl=>by
      have he:=HL.out;obtain⟨i,hi,hx2⟩:=zk3 hx hd;rw[hl] at hi;unfold prF;rw[he,hke,List.take_length,← he];exact List.mem_filterMap.2 ⟨i,hi,hx2⟩),HJ.out.num⟩
     clear HJ hke hk;go_wp2_with fail;go_roundg (QH.length+zjs b pl+1)
     case measure=>exact hgk
     case rel=>exact⟨b,QH,A,cq,rfl,by omega,HF⟩
def zkd (pl:List Syn)(h:Hav):Bool:=match stF pl pl.length h.path with
 | none=>true
 | some i=>((pl[i]?).map fun x=>z3t x.kind).getD true
theorem zke {pl:List Syn}(hs:z6j pl)(h:Hav):zkd pl h=true↔ze5 pl (fun _=>false) h.path:=by
 unfold zkd ze5;rw[stF_get hs];cases e:stF pl pl.length h.path with
 | none=>simp
 | some i =>
  obtain⟨-,hi,-⟩:=zk5 (Nat.le_refl _) e;rw[Option.bind_some,List.getElem?_eq_getElem hi];simp [List.getElem?_eq_getElem hi]
structure Bk2 (w wr:World)(pl:List Syn)(hs:List Hav)(k:Nat)(QH:List Hav)(qv:Value):Prop where
 own:wr.ownsRow w.heap.size 96 3 qv QH.length (QH.flatMap Hav.cells)
 low:zB w wr
 is:QH=(hs.take k).filter (zkd pl)
theorem Bk2.under {w wr wx:World}{pl:List Syn}{hs:List Hav}{k:Nat}{QH:List Hav}{qv:Value}(h:Bk2 w wr pl hs k QH qv)(hb:zB wr wx):Bk2 w wx pl hs k QH qv:=⟨z0n h.own hb,z0r h.low hb,h.is⟩
theorem Bk2.skip {w wr:World}{pl:List Syn}{hs:List Hav}{k:Nat}{QH:List Hav}{qv:Value}(h:Bk2 w wr pl hs k QH qv)(hk:k<hs.length)(e:zkd pl hs[k]=false):Bk2 w wr pl hs (k+1) QH qv:=
 ⟨h.own,h.low,by rw[List.take_succ_eq_append_getElem hk,List.filter_append,← h.is];simp [e]⟩
theorem Bk2.push {w wr wx:World}{pl:List Syn}{hs:List Hav}{k:Nat}{QH:List Hav}{qv:Value}{A':Option Addr}{c':Nat}(h:Bk2 w wr pl hs k QH qv)(hk:k<hs.length)(e:zkd pl hs[k]=true)
  (ho:wx.ownsRow w.heap.size 96 3 (.slice A' (QH.length+1) c') (QH.length+1) (QH.flatMap Hav.cells++hs[k].cells)) (hg:wr.grownBy wx qv.ownBlock):Bk2 w wx pl hs (k+1) (QH++[hs[k]]) (.slice A' (QH.length+1) c'):=by
 refine⟨?_,h.low.grown hg h.low.size (fun x hx=>(h.own.lt x hx).1),by rw[List.take_succ_eq_append_getElem hk,List.filter_append,← h.is];simp [e]⟩
 rw[List.length_append,List.flatMap_append];have e2:[hs[k]].flatMap Hav.cells=hs[k].cells:=by simp
 rw[e2];exact ho
theorem Bk2.len {w wr:World}{pl:List Syn}{hs:List Hav}{k:Nat}{QH:List Hav}{qv:Value}(h:Bk2 w wr pl hs k QH qv):QH.length≤hs.length:=by
 rw[h.is];exact Nat.le_trans (List.length_filter_le _ _) (by rw[List.length_take];exact Nat.min_le_right _ _)
theorem zkf (pl:List Syn):zdz (fun _=>false) pl=pl:=by
 unfold zdz;have:(zdy fun _=>false)=id:=by funext x;rfl
 rw[this,List.map_id]
theorem zkg (b:ByteArray→Bool)(pl:List Syn):zjs b pl≤pl.length:=List.length_filter_le _ _
theorem bkT9 (T:Code)(hT:Tryz.f47.body.bind (zhg 9)=some T)(R:Ending→World→Prop)(X w:World)(B g c bS bC:Nat)(hs:List Hav)(pl:List Syn)(Ah Ap:Option Addr)(ch:Nat)(hAp:0<pl.length→Ap=some ⟨g,0,none⟩)
  (hI:Bk1 X w bS bC (stF pl pl.length) (zk0 pl pl.length)) (hO:zj7 w B (.slice Ap pl.length c) pl) (hL:Below B X w) (hH:z4h w (.slice Ah hs.length ch) hs) (hOk:zek hs) (hsrt:z6j pl) (hfrm:∀ x∈pl,x.frm=zjg hs x.path)
  (hB:B≤g) (hg:g<X.heap.size) (hn:pl.length≤2000) (hhn:hs.length≤10000)
  (hR:∀ w',zj7 w' B (.slice Ap pl.length c) (zdz (blB hs pl) pl)→Below B X w'→R (.returned (.tuple #[])) w')
  (u2 u3 u6 u7 u8 u9 gA gC gD gE gF gG gH gI gJ gK gL gM gN gO gP gQ gR gT gV gW gX gY gZ i6 i7 i8 ia ib ic ie ig ii ij ik il im io ip iq ir iu iv iw ix iy iz iA iB iC iD iE iF iG iH iI iJ iK iL iM iN iO iP iQ iR iS iT iU iV iW iX iY iZ j0 j1 j2 j5 j6 j7 j8 j9 jb jd jf jg jh ji jj jk jl jm bE bF bG bH bI bJ bK bL bM bN bO bP bQ bT bU bV bW bX bY bZ cj ck cn cx cy cz cA:Value):
  T.wp Tryz.prog (bodyPost Tryz.prog Tryz.f47 R) ⟨#[.slice Ah hs.length ch,.slice Ap pl.length c,u2,u3,.map (some bS),.map (some bC),u6,u7,u8,u9,gA,gC,gD,gE,gF,gG,gH,gI,gJ,gK,gL,gM,gN,gO,gP,gQ,gR,gT,gV,gW,gX,gY,gZ,i6,i7,i8,ia,ib,ic,ie,ig,ii,ij,ik,il,im,io,ip,iq,ir,iu,iv,iw,ix,iy,iz,iA,iB,iC,iD,iE,iF,iG,iH,iI,iJ,iK,iL,iM,iN,iO,iP,iQ,iR,iS,iT,iU,iV,iW,iX,iY,iZ,j0,j1,j2,j5,j6,j7,j8,j9,jb,jd,jf,jg,jh,ji,jj,jk,jl,jm,bE,bF,bG,bH,bI,bJ,bK,bL,bM,bN,bO,bP,bQ,bT,bU,bV,bW,bX,bY,bZ,cj,ck,cn,cx,cy,cz,cA],[]⟩ w:=by
 simp only[Tryz.f47,Option.bind_some,zhg,zhf] at hT
 simp at hT
 subst hT;have HI:=hd_ hI;have HO:=hd_ hO;have HH:=hd_ hH;have HL:=hd_ hL;have HOK:=hd_ hOk;have HSRT:=hd_ hsrt;have HFRM:=hd_ hfrm;have HR:=hd_ hR;have HXW:=hd_ (hI.low.size);have HGW:=hd_ hg;have HS0:Hid (Bk2 w w pl hs 0 [] (.slice none 0 0)):=hd_ ⟨World.ownsRow_nil _ _ _ _,Below.refl _ _,rfl⟩;clear hI hO hL hH hOk hsrt hfrm hR;go_wp2_with fail;go_loopw [8,45] (fun q i wq=>∃(k:Nat) (QH:List Hav) (A:Option Addr) (cq:Nat),q=.slice A QH.length cq∧i=.int .i64 k∧k≤hs.length∧Hid (Bk2 w wq pl hs k QH q)) (fun _ i _=>hs.length - (intOf i).toNat)
 case atStart=>exact⟨0,[],none,0,rfl,rfl,Nat.zero_le _,HS0⟩
 case round =>
  obtain⟨k,QH,A,cq,rfl,rfl,hk,HJ⟩:=hrel;clear HS0;by_cases hlt:k<hs.length
  ·have HLT:=hd_ hlt;have hHX:z4h wr (.slice Ah hs.length ch) hs:=Row.below HH.out HJ.out.low;obtain⟨ad,rfl,hab,s0,s1,s2⟩:=z4h.at_ hHX hlt;have HSK:=hd_ (HJ.out.skip hlt);have HPU:=hd_ (fun(A':Option Addr) (c':Nat) (wx:World) (e:zkd pl hs[k]=true) (W:World) (hb:zB wr W) ho hg=>(HJ.out.under hb).push (A':=A') (c':=c') (wx:=wx) hlt e ho hg);have HSP:Hid (zkd pl hs[k]=match stF pl pl.length hs[k].path with | none=>true | some i=>((pl[i]?).map fun x=>z3t x.kind).getD true):=hd_ rfl
   have HQL:=hd_ (show QH.length≤10000 from Nat.le_trans HJ.out.len hhn);generalize hs[k]=h at s0 s1 s2 HSK HPU HSP;have hA:zB wr (wr.alloc (.cells #[.string h.path,.int .i64 h.num,.string h.loc] 96)):=(Below.refl _ _).alloc (Nat.le_refl _) _;have hbx:=z0l wr [.string h.path,.int .i64 h.num,.string h.loc] 96;have hst:z2k Value.string natV (wr.alloc (.cells #[.string h.path,.int .i64 h.num,.string h.loc] 96)) bS (stF pl pl.length):=z2k.below (z2k.below HI.out.st HJ.out.low) hA;have hlk:=z2k.lookup hst (z2i Tryz.underlying9) Tryz.underlying162 (z:=.int .i64 0) (by rfl) h.path true
   have HA:=hd_ hA;have HBX:=hd_ hbx;have hown1:zj7 (wr.alloc (.cells #[.string h.path,.int .i64 h.num,.string h.loc] 96)) B (.slice Ap pl.length c) pl:=z0n (z0n HO.out HJ.out.low) hA;have HOX:=hd_ hown1;have HQR:=hd_ (HJ.out.under hA).own;clear hHX hbx hst hown1 hab hlt;cases hsf:stF pl pl.length h.path with
   | none =>
    rw[hsf] at hlk;have hlk2:(Instr.lookup 162 (.map (some bS)) (.string h.path) true).run Tryz.prog (wr.alloc (.cells #[.string h.path,.int .i64 h.num,.string h.loc] 96))=.ok (.tuple #[.int .i64 0,.bool false]) (wr.alloc (.cells #[.string h.path,.int .i64 h.num,.string h.loc] 96)):=hlk;have HYES:Hid (zkd pl h=true):=hd_ (by rw[HSP.out,hsf])
    clear hlk hsf;go_upto_region 13 with fail;generalize wr.alloc (.cells #[.string h.path,.int .i64 h.num,.string h.loc] 96)=W1 at HA HBX hlk2 HOX HQR ⊢;clear s0 s1 s2 hA;obtain⟨d0,d1,d2⟩:=z3x (x:=h) HBX.out;have hrow:=z0i W1 [.string h.path,.int .i64 h.num,.string h.loc] 96 3 1 rfl (by unfold maxLen;omega) W1.heap.size rfl
    have hown2:=z0v HQR.out (.cells #[.string h.path,.int .i64 h.num,.string h.loc] 96);have HQ2:=hd_ hown2;have HQL2:=HQL.out;have hsz:w.heap.size≤(W1.alloc (.cells #[.string h.path,.int .i64 h.num,.string h.loc] 96)).heap.size:=by have:=HJ.out.low.size;have:=HA.out.size;simp;omega
    clear hown2;go_wp2_with (at_builtin;refine z0j rfl rfl z5a HQ2.out rfl hrow rfl (z5b h) (by omega) (by unfold maxLen;omega) hsz ?_;intro A' c' w2 hown hgr hob)
    have HN:=hd_ (HPU.out A' c' w2 HYES.out (W1.alloc (.cells #[.string h.path,.int .i64 h.num,.string h.loc] 96)) (z0r HA.out ((Below.refl _ _).alloc (Nat.le_refl _) _)) hown hgr);clear hown hgr hob hrow hlk2 d0 d1 d2;go_wp2_with fail;go_roundw
    case rel=>exact⟨k+1,QH++[h],A',c',by rw[List.length_append];rfl,by go_num,by have:=HLT.out;omega,HN⟩
    case measure=>have:=HLT.out;simp [intOf];omega
   | some i =>
    rw[hsf] at hlk;have hlk2:(Instr.lookup 162 (.map (some bS)) (.string h.path) true).run Tryz.prog (wr.alloc (.cells #[.string h.path,.int .i64 h.num,.string h.loc] 96))=.ok (.tuple #[.int .i64 i,.bool true]) (wr.alloc (.cells #[.string h.path,.int .i64 h.num,.string h.loc] 96)):=hlk;obtain⟨-,hi,-⟩:=zk5 (Nat.le_refl _) hsf;obtain rfl:=hAp (by omega)
    have HSB:Hid (zkd pl h=z3t pl[i].kind):=hd_ (by rw[HSP.out,hsf];simp [List.getElem?_eq_getElem hi])
    obtain⟨hsy,-⟩:=zj7.cell HOX.out hi;generalize pl[i]=y at HSB hsy;clear hlk hsf;go_upto_region 14 with fail;generalize wr.alloc (.cells #[.string h.path,.int .i64 h.num,.string h.loc] 96)=W1 at HA HBX hsy HOX HQR ⊢;clear s0 s1 s2 hA hlk2;obtain⟨y0,y1,y2,y3,y4⟩:=hsy;have HST:=hd_ (z3z y W1);cases hb:z3t y.kind with
    | false =>
     rw[hb] at HST HSB;have HNO:=hd_ (HSK.out HSB.out);clear hb;go_wp2_with fail;refine HST.out.mono ?_;rintro e w2 ⟨rfl,hb2⟩;dsimp only;have HN:=hd_ (HNO.out.under (z0r HA.out hb2));clear hb2 y0 y1 y2 y3 y4;go_wp2_with fail;go_roundw
     case rel=>exact⟨k+1,QH,A,cq,rfl,by go_num,by have:=HLT.out;omega,HN⟩
     case measure=>have:=HLT.out;simp [intOf];omega
    | true =>
     rw[hb] at HST HSB;clear hb;go_wp2_with fail;refine HST.out.mono ?_;rintro e w2 ⟨rfl,hb2⟩;dsimp only;have HA2:=hd_ (z0r HA.out hb2);have HBX2:=hd_ (HBX.out.below hb2 HBX.out.lt);have HQR2:=hd_ (z0n HQR.out hb2);clear hb2 y0 y1 y2 y3 y4;obtain⟨d0,d1,d2⟩:=z3x (x:=h) HBX2.out;have hrow:=z0i w2 [.string h.path,.int .i64 h.num,.string h.loc] 96 3 1 rfl (by unfold maxLen;omega) w2.heap.size rfl
     have hown2:=z0v HQR2.out (.cells #[.string h.path,.int .i64 h.num,.string h.loc] 96);have HQ2:=hd_ hown2;have HQL2:=HQL.out;have hsz:w.heap.size≤(w2.alloc (.cells #[.string h.path,.int .i64 h.num,.string h.loc] 96)).heap.size:=by have:=HJ.out.low.size;have:=HA2.out.size;simp;omega
     clear hown2;go_wp2_with (at_builtin;refine z0j rfl rfl z5a HQ2.out rfl hrow rfl (z5b h) (by omega) (by unfold maxLen;omega) hsz ?_;intro A' c' w3 hown hgr hob)
     have HN:=hd_ (HPU.out A' c' w3 HSB.out (w2.alloc (.cells #[.string h.path,.int .i64 h.num,.string h.loc] 96)) (z0r HA2.out ((Below.refl _ _).alloc (Nat.le_refl _) _)) hown hgr);clear hown hgr hob hrow d0 d1 d2;go_wp2_with fail;go_roundw
     case rel=>exact⟨k+1,QH++[h],A',c',by rw[List.length_append];rfl,by go_num,by have:=HLT.out;omega,HN⟩
     case measure=>have:=HLT.out;simp [intOf];omega
  ·have hke:k=hs.length:=by omega
   subst hke;have HQE:Hid (QH=hs.filter (zkd pl)):=hd_ (by have:=HJ.out.is;rw[List.take_length] at this;exact this)
   have HLW:=hd_ HJ.out.low;have HQN:=hd_ HJ.out.len;have HT:=hd_ (fun(T:Code) hT=>bkT17 T hT R X wr B w.heap.size g c bC (hs.length+pl.length) Ap hs pl hAp QH A cq ⟨⟨by rw[zkf];exact z0n HO.out HJ.out.low,(HI.out.com.keep (fun x hx _=>HJ.out.low.block x hx)),HL.out.trans (HJ.out.low.mono (by have:=HXW.out;have:=HGW.out;omega)),zjd.of_own HJ.out.own,HJ.out.low.size⟩,by
    refine bk_init hs pl _ fun q=>?_;rw[HQE.out,List.mem_map];constructor
    ·rintro⟨h,hm,rfl⟩;obtain⟨m1,m2⟩:=List.mem_filter.1 hm;exact⟨h,m1,rfl,(zke HSRT.out h).1 m2⟩
    ·rintro⟨h,m1,e,m2⟩;exact⟨h,List.mem_filter.2 ⟨m1,(zke HSRT.out h).2 m2⟩,e⟩,by have:=zkg (fun _=>false) pl;have:=HQN.out;omega⟩ HOK.out HSRT.out HFRM.out hB hg HXW.out HI.out.leC (by omega) (by omega) HR.out)
   clear HJ;rename ∀ a w,Code.wp _ (Code.block 4 _) _ a w→_=>hk7
   have HK7:=hd_ hk7;clear hk7;go_wp2_with fail;exact HK7.out _ _ (HT.out _ (by kernel_rfl) _ _ _ _ _ _ _ _ _ _ _ _ _ _ _ _ _ _ _ _ _ _ _ _ _ _ _ _ _ _ _ _ _ _ _ _ _ _ _ _ _ _ _ _ _ _ _ _ _ _ _ _ _ _ _ _ _ _ _ _ _ _ _ _ _ _ _ _ _ _ _ _ _ _ _ _ _ _ _ _ _ _ _ _ _ _ _ _ _ _ _ _ _ _ _ _ _ _ _ _ _ _ _ _ _ _ _ _ _ _ _ _ _ _ _ _ _ _ _ _ _ _ _ _)
