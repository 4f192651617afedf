/- A part. -/
import Derived.Test.YtlnjaagijaadmaaGreatDoorMvw28
set_option linter.unusedVariables false
set_option linter.unusedSimpArgs false
set_option maxHeartbeats 16000000
set_option maxRecDepth 100000
namespace Go.Proofs.YtlnjaagijaadmaaGreatDoor
open Go.Proofs.Tryz
open Go.RowKit
structure EntP where
 l:Pat
 r:Pat
 hs:List Pat
def zdk.pl (x:zdk):EntP:=⟨x.l.1,x.r.1,x.hs.map (·.1)⟩
def ze9 (c:UInt8):zA:=⟨#[c]⟩
def zea:zA:=⟨#[42]⟩
def zeb:Nat->List EntP
 | 0=>[⟨⟨[ze9 100],true⟩,⟨[ze9 99],true⟩,[]⟩]
 | 1=>[⟨⟨[ze9 100],true⟩,⟨[ze9 99],true⟩,[⟨[ze9 100,ze9 120],true⟩]⟩]
 | 2=>[⟨⟨[ze9 100,ze9 120],true⟩,⟨[ze9 99],true⟩,[]⟩,⟨⟨[ze9 101],true⟩,⟨[ze9 119],true⟩,[]⟩]
 | 3=>[⟨⟨[ze9 100,ze9 97],false⟩,⟨[ze9 99,ze9 98],false⟩,[]⟩,⟨⟨[ze9 100,ze9 98],false⟩,⟨[ze9 99,ze9 97],false⟩,[]⟩,⟨⟨[ze9 100,ze9 120],true⟩,⟨[ze9 99,ze9 120],true⟩,[]⟩]
 | 4=>[⟨⟨[ze9 100,ze9 97],false⟩,⟨[ze9 99,ze9 97],false⟩,[]⟩,⟨⟨[ze9 100,ze9 98],false⟩,⟨[ze9 99,ze9 98],false⟩,[]⟩,⟨⟨[ze9 101,ze9 97],false⟩,⟨[ze9 99,ze9 101],false⟩,[]⟩]
 | 5=>[⟨⟨[ze9 101],true⟩,⟨[ze9 99],true⟩,[]⟩,⟨⟨[ze9 100,zea,ze9 97],false⟩,⟨[ze9 119,zea,ze9 122],false⟩,[]⟩]
 | 6=>[⟨⟨[ze9 100],true⟩,⟨[ze9 99],true⟩,[]⟩,⟨⟨[ze9 101],true⟩,⟨[ze9 119],true⟩,[]⟩]
 | _=>[]
def regP (b:Pat)(hs:List Pat):Int:=if z8w b≠0 then 50 else if (hs.all fun q=>decide (z8w q=0))=false then 51 else if 64<hs.length then 52 else 0
theorem regE_pl (b:Pat)(hs:List PatM):zdf b hs=regP b (hs.map (·.1)):=by
 unfold zdf regP;rw[Zk,List.all_map];rfl
def zec (p:Pat):Bool:=p.kr && decide (z8w p=0) && p.kp.all fun x=>!z8r x
theorem zed {p:Pat}(h:zec p=true):zd7 p:=by
 unfold zec at h;simp only[Zw,ZB,Bool.not_eq_true',decide_eq_true_eq] at h
 exact⟨h.1.1,h.1.2,h.2⟩
def wiB (p q:Pat):Bool:=decide (q.kp.length<=p.kp.length) && (List.range q.kp.length).all fun k=>zbl ((p.kp[k]?).getD z2r) ((q.kp[k]?).getD z2r)
theorem wiB_ok {p q:Pat}(h:wiB p q=true):WiOk p q:=by
 unfold wiB at h;simp only[Zw,ZB,decide_eq_true_eq,List.mem_range] at h
 refine⟨h.1,fun k hk=>?_⟩;have:=h.2 k hk;rw[Ze hk,Ze (Zq hk h.1)] at this;exact this
def narB (l r h:Pat):Bool:=match zc6 l h with
 | none=>false
 | some m=>zec l && zec r && decide (zbw l r=0) && decide (z8w h=0) && m.kr && decide (z8w m=0) && wiB m l && decide (r.kp.length+(m.kp.length - l.kp.length)<=12)
theorem narB_ok {l r h:Pat}(e:narB l r h=true):∃ m,zdb l r h m:=by
 unfold narB at e;cases hm:zc6 l h with
 | none=>rw[hm] at e;cases e
 | some m =>
  rw[hm] at e;simp only[Zw,decide_eq_true_eq] at e
  obtain⟨⟨⟨⟨⟨⟨⟨e1,e2⟩,e3⟩,e4⟩,e5⟩,e6⟩,e7⟩,e8⟩:=e;exact⟨m,zed e1,zed e2,e3,e4,hm,e5,e6,wiB_ok e7,e8⟩
def fillB (p:Pat)(caps:List zA):Bool:=
 decide (z8w p=0) && decide (caps.length=zbq p+(if p.kr then 1 else 0)) && (caps.take (zbq p)).all z0z && (!p.kr || (caps.drop (zbq p)).all fun c=>(z1e c.data.toList).all z0y) &&
  (caps.all fun c=>decide (c.size<=1000000)) && decide ((Lib.join ((zcm p caps).map (·.data.toList)) [47]).length<=30000000) && decide (0<(zcm p caps).length)
theorem zee {p:Pat}{caps:List zA}(h:fillB p caps=true):zco p caps:=by
 unfold fillB at h;simp only[Zw,Bool.or_eq_true,Bool.not_eq_true',ZB,decide_eq_true_eq] at h
 obtain⟨⟨⟨⟨⟨⟨h1,h2⟩,h3⟩,h4⟩,h5⟩,h6⟩,h7⟩:=h;refine⟨h1,h2,h3,fun hr c hc=>?_,h5,h6,h7⟩;rcases h4 with h4 | h4
 ·rw[h4] at hr;cases hr
 ·exact ZB.2 (h4 c hc)
def entB (x:EntP):Bool:=decide (zbw x.l x.r=0) && decide (regP x.l x.hs=0) && x.hs.all (narB x.l x.r)
def mapB (es:List EntP):Bool:=decide (es.length<=32) && es.all entB && (List.range es.length).all fun i=>(List.range i).all fun j=>match es[i]?,es[j]? with
 | some x,some y=>(zc6 x.l y.l).isNone && (zc6 x.r y.r).isNone
 | _,_=>false
theorem mapB_ok {es:List zdk}(h:mapB (es.map zdk.pl)=true):zdp es:=by
 unfold mapB at h;simp only[Zw,ZB,decide_eq_true_eq,List.mem_range,Zk,ZD,forall_exists_index,and_imp,forall_apply_eq_imp_iff₂] at h
 obtain⟨⟨h1,h2⟩,h3⟩:=h;refine⟨h1,fun x hx=>?_,fun i j hi hj=>?_⟩
 ·have:=h2 x hx;unfold entB at this;simp only[Zw,ZB,decide_eq_true_eq] at this
  refine⟨this.1.1,by rw[regE_pl];exact this.1.2,fun q hq=>?_⟩
  exact narB_ok (this.2 q.1 (ZD.2 ⟨q,hq,rfl⟩))
 ·have:=h3 i hi j hj;rw[ZA,ZA,Ze hi,Ze (ZZ hj hi)] at this;simp only[Option.map_some,Zw,Option.isNone_iff_eq_none] at this
  exact this
def zef (x:EntP)(p:zA):Option zA:=match zcv x.l x.r p with
 | none=>none
 | some s=>if x.hs.any (fun q=>(zaj q p).isSome) then none else some s
def fwdP (es:List EntP)(p:zA):Option zA:=es.findSome? (zef · p)
theorem fwdM_pl (es:List zdk)(p:zA):zdy es p=fwdP (es.map zdk.pl) p:=by
 unfold zdy fwdP;induction es with
 | nil=>rfl
 | cons x es ih =>
  rw[ZN,List.findSome?_cons,List.findSome?_cons,ih];have:zdx x p=zef x.pl p:=by
   unfold zdx zef zdu;show (match zcv x.l.1 x.r.1 p with | none=>none | some s=>_)=(match zcv x.l.1 x.r.1 p with | none=>none | some s=>if (x.hs.map (·.1)).any _=true then none else some s)
   rw[List.any_map];rfl
  rw[this]
theorem maps_B:∀ k<8,mapB (zeb k)=true:=by decide +kernel
theorem zeg:∀ k<8,∀ p∈z8e,fwdP (zeb k) p=z8p k p:=by decide +kernel
theorem zeh:∀ k<8,∀ p∈z8e,∀ x∈zeb k,((zaj x.l p).map (fillB x.r)).getD true=true:=by decide +kernel
theorem zei:∀ k<8,∀ p∈z8e,((z8p k p).map fun s=>decide (s.size<=200)).getD true=true:=by decide +kernel
theorem zej {es:List zdk}{k:Nat}(hk:k<8)(h:es.map zdk.pl=zeb k):ze2 es/\∀ p∈z8e,zdy es p=z8p k p:=by
 have hf:∀ p∈z8e,zdy es p=z8p k p:=fun p hp=>by rw[fwdM_pl,h];exact zeg k hk p hp
 refine⟨⟨mapB_ok (by rw[h];exact maps_B k hk),fun p hp x hx caps hc=>?_,fun p hp s hs=>?_⟩,hf⟩
 ·have:=zeh k hk p hp x.pl (by rw[<- h];exact ZD.2 ⟨x,hx,rfl⟩)
  have e:zaj x.pl.l p=some caps:=hc;rw[e] at this;exact zee this
 ·rw[hf p hp] at hs;have:=zei k hk p hp;rw[hs] at this;simpa using this
theorem zek {D:List Rev}{f g:zA->Option zA}{m:Int}(h:∀ p∈z8e,f p=g p):z8j D f m=z8j D g m:=by
 unfold z8j;refine z7s fun p hp=>?_;unfold z8i;rw[h p hp]
section
variable {u0 u1 u2 u3 u4 u5 u6 u7 u8 u9 gF gG gH gI gJ gK gL gM gN gO gP gQ gR gT gV gW gX gY gZ i6 i7 i8 ia ib ic ie ig ii ij ik il im io ip iq ir iu iv iw iy iz iA iB iC iD iE iF iG iH iI iJ iK : zV}
def mvB (x y:Edt):Bool:=(decide (x.act=5) && decide (y.act=4) && decide (y.frm=x.kt)) || (decide (x.act=4) && decide (y.act=5) && decide (y.kt=x.frm))
theorem movedR5 (ops:Array Oper)(hops:Tryz.f131.body.bind (z0w 5)=some ops)(Q:Exit->Act->zW->Prop)(g3 g7:Nat)(x y:Edt)(V:zW)
  (h3:Blk V g3 88 [zS x.kt,zI x.act,zI x.ty.base,.bool x.ty.k,.bool x.ty.l,.bool x.ty.x,.int .u64 x.sum,zI x.size,zI x.base,zS x.frm,zI x.fnum,zI x.fence]) (h7:Blk V g7 88 [zS y.kt,zI y.act,zI y.ty.base,.bool y.ty.k,.bool y.ty.l,.bool y.ty.x,.int .u64 y.sum,zI y.size,zI y.base,zS y.frm,zI y.fnum,zI y.fence])
  (hQ:∀(en eo et eu ew eA eB eC eD eE eF eG eH eI eJ eK eL eM eN eO eP eQ eR eS eT eU eV eW eX eY eZ:zV),Q .normal ⟨#[u0,u1,u2,.pointer (some ⟨g3,0,none⟩),u4,u5,u6,.pointer (some ⟨g7,0,none⟩),u8,u9,gF,gG,gH,gI,gJ,en,eo,et,eu,ew,eA,eB,eC,eD,eE,eF,eG,eH,eI,eJ,eK,eL,eM,eN,eO,eP,eQ,eR,eS,eT,eU,eV,eW,eX,eY,eZ,.bool (mvB x y),iv,iw,iy,iz,iA,iB,iC,iD,iE,iF,iG,iH,iI,iJ,iK],[]⟩ V):
  (Code.region 5 ops false).wp prog Q ⟨#[u0,u1,u2,.pointer (some ⟨g3,0,none⟩),u4,u5,u6,.pointer (some ⟨g7,0,none⟩),u8,u9,gF,gG,gH,gI,gJ,gK,gL,gM,gN,gO,gP,gQ,gR,gT,gV,gW,gX,gY,gZ,i6,i7,i8,ia,ib,ic,ie,ig,ii,ij,ik,il,im,io,ip,iq,ir,iu,iv,iw,iy,iz,iA,iB,iC,iD,iE,iF,iG,iH,iI,iJ,iK],[]⟩ V:=by
 simp only[Tryz.f131,Zp,z0w] at hops
 simp at hops
 subst hops;have HQ:=hd_ hQ;clear hQ;obtain⟨a0,a1,a2,a3,a4,a5,a6,a7,a8,a9,a10,a11⟩:=z57 h3;obtain⟨b0,b1,b2,b3,b4,b5,b6,b7,b8,b9,b10,b11⟩:=z57 h7;have HE:Hid (mvB x y=((decide (x.act=5) && decide (y.act=4) && decide (y.frm=x.kt)) || (decide (x.act=4) && decide (y.act=5) && decide (y.kt=x.frm)))):=hd_ rfl;by_cases c5:x.act=5
 ·have q5:(x.act == 5)=true:=by simpa using c5
  have q4:(x.act == 4)=false:=by rw[c5];rfl
  by_cases y4:y.act=4
  ·have r4:(y.act == 4)=true:=by simpa using y4
   have sq:=zev y.frm x.kt;by_cases yp:y.frm=x.kt
   ·rw[decide_eq_true yp] at sq;have e:mvB x y=true:=by rw[HE.out];simp [c5,y4,yp]
    rw[e] at HQ;clear c5 y4 yp e;go_wp2_with fail;exact HQ ..
   ·rw[decide_eq_false yp] at sq;have e:mvB x y=false:=by rw[HE.out];simp [c5,y4,yp]
    rw[e] at HQ;clear c5 y4 yp e;go_wp2_with fail;exact HQ ..
  ·have r4:(y.act == 4)=false:=by simpa using y4
   have e:mvB x y=false:=by rw[HE.out];simp [c5,y4]
   rw[e] at HQ;clear c5 y4 e;go_wp2_with fail;exact HQ ..
 ·have q5:(x.act == 5)=false:=by simpa using c5
  by_cases c4:x.act=4
  ·have q4:(x.act == 4)=true:=by simpa using c4
   by_cases y5:y.act=5
   ·have r5:(y.act == 5)=true:=by simpa using y5
    have sq:=zev y.kt x.frm;by_cases yp:y.kt=x.frm
    ·rw[decide_eq_true yp] at sq;have e:mvB x y=true:=by rw[HE.out];simp [c5,c4,y5,yp]
     rw[e] at HQ;clear c5 c4 y5 yp e;go_wp2_with fail;exact HQ ..
    ·rw[decide_eq_false yp] at sq;have e:mvB x y=false:=by rw[HE.out];simp [c5,c4,y5,yp]
     rw[e] at HQ;clear c5 c4 y5 yp e;go_wp2_with fail;exact HQ ..
   ·have r5:(y.act == 5)=false:=by simpa using y5
    have e:mvB x y=false:=by rw[HE.out];simp [c5,c4,y5]
    rw[e] at HQ;clear c5 c4 y5 e;go_wp2_with fail;exact HQ ..
  ·have q4:(x.act == 4)=false:=by simpa using c4
   have e:mvB x y=false:=by rw[HE.out];simp [c5,c4]
   rw[e] at HQ;clear c5 c4 e;go_wp2_with fail;exact HQ ..
theorem zgq (es:List Edt)(x:Edt)(k:Nat)(h:k<es.length):zgo (es.take (k+1)) x=zgo (es.take k) x+(if mvB x es[k] then 1 else 0):=by
 unfold zgo;rw[Zr h,List.countP_append,List.countP_cons,List.countP_nil,ZV];rfl
theorem zgr (es:List Edt)(x:Edt)(k:Nat):zgo (es.take k) x<=k:=by
 unfold zgo;have:=List.countP_le_length (p:=fun y:Edt=>(decide (x.act=5) && decide (y.act=4) && decide (y.frm=x.kt)) || (decide (x.act=4) && decide (y.act=5) && decide (y.kt=x.frm))) (l:=es.take k);rw[ZK] at this;omega
theorem zgs (es:List Edt)(num:Int)(cl tx:zA)(Ae Ac:zP)(nc ce cc:Nat)(x:Edt)(w:zW)(hE:z3x w (zL Ae es.length ce) es)(hl:es.length<=100000):
  Calls prog 131 #[.agg #[zI num,zS cl,zS tx,zL Ae es.length ce,zL Ac nc cc],.agg #[zS x.kt,zI x.act,zI x.ty.base,.bool x.ty.k,.bool x.ty.l,.bool x.ty.x,.int .u64 x.sum,zI x.size,zI x.base,zS x.frm,zI x.fnum,zI x.fence]] w fun e w'=>e=.returned (.bool (zgp es x))/\zB w w':=by
 have HE:=hd_ hE;clear hE;have hb0:zB w ((w.alloc (zC #[zI num,zS cl,zS tx,zL Ae es.length ce,zL Ac nc cc] 93)).alloc (zC #[zS x.kt,zI x.act,zI x.ty.base,.bool x.ty.k,.bool x.ty.l,.bool x.ty.x,.int .u64 x.sum,zI x.size,zI x.base,zS x.frm,zI x.fnum,zI x.fence] 88)):=(zR).alloc (by simp) _
 have hV:Blk ((w.alloc (zC #[zI num,zS cl,zS tx,zL Ae es.length ce,zL Ac nc cc] 93)).alloc (zC #[zS x.kt,zI x.act,zI x.ty.base,.bool x.ty.k,.bool x.ty.l,.bool x.ty.x,.int .u64 x.sum,zI x.size,zI x.base,zS x.frm,zI x.fnum,zI x.fence] 88)) (w.heap.size+1) 88 [zS x.kt,zI x.act,zI x.ty.base,.bool x.ty.k,.bool x.ty.l,.bool x.ty.x,.int .u64 x.sum,zI x.size,zI x.base,zS x.frm,zI x.fnum,zI x.fence]:=by
  have h1:=z0l (w.alloc (zC #[zI num,zS cl,zS tx,zL Ae es.length ce,zL Ac nc cc] 93)) [zS x.kt,zI x.act,zI x.ty.base,.bool x.ty.k,.bool x.ty.l,.bool x.ty.x,.int .u64 x.sum,zI x.size,zI x.base,zS x.frm,zI x.fnum,zI x.fence] 88;simp only[Zl] at h1
  exact h1
 have hB:Blk ((w.alloc (zC #[zI num,zS cl,zS tx,zL Ae es.length ce,zL Ac nc cc] 93)).alloc (zC #[zS x.kt,zI x.act,zI x.ty.base,.bool x.ty.k,.bool x.ty.l,.bool x.ty.x,.int .u64 x.sum,zI x.size,zI x.base,zS x.frm,zI x.fnum,zI x.fence] 88)) w.heap.size 93 [zI num,zS cl,zS tx,zL Ae es.length ce,zL Ac nc cc]:=(z0l w _ _).alloc _;go_enter func131,ntmps131;go_upto_region 1 with fail;generalize (w.alloc (zC #[zI num,zS cl,zS tx,zL Ae es.length ce,zL Ac nc cc] 93)).alloc (zC #[zS x.kt,zI x.act,zI x.ty.base,.bool x.ty.k,.bool x.ty.l,.bool x.ty.x,.int .u64 x.sum,zI x.size,zI x.base,zS x.frm,zI x.fnum,zI x.fence] 88)=W1 at hb0 hV hB |-;obtain⟨d0,d1,d2,d3,d4⟩:=zgf hB;have HV:=hd_ hV;have Hb0:=hd_ hb0;clear hb0 hV hB;go_wp2_with fail;clear d0 d1 d2 d3 d4;go_loopw [5,11] (fun n s wr=>∃ k:Nat,s=zI k/\n=zI (zgo (es.take k) x)/\k<=es.length/\Hid (zB W1 wr)) (fun _ s _=>es.length - (intOf s).toNat)
 exact⟨0,rfl,by rw[List.take_zero];rfl,Zg _,Zb _ _⟩
 obtain⟨k,rfl,rfl,hk,HI⟩:=hrel;by_cases hlt:k<es.length
 ·obtain⟨ad,rfl,hab,hld⟩:=z3x.at_ (HE.out.kw (z0r Hb0.out HI.out)) hlt;have HN:=hd_ (zgq es x k hlt);have hle:=zgr es x k;generalize es[k]=y at hld HN;obtain⟨x0,x1,x2,x3,x4,x5,x6,x7,x8,x9,x10,x11⟩:=hld;have hY:=z0l wr [zS y.kt,zI y.act,zI y.ty.base,.bool y.ty.k,.bool y.ty.l,.bool y.ty.x,.int .u64 y.sum,zI y.size,zI y.base,zS y.frm,zI y.fnum,zI y.fence] 88;have hA1:=HI.out.alloc HI.out.size (zC #[zS y.kt,zI y.act,zI y.ty.base,.bool y.ty.k,.bool y.ty.l,.bool y.ty.x,.int .u64 y.sum,zI y.size,zI y.base,zS y.frm,zI y.fnum,zI y.fence] 88);go_upto_region 5 with fail;clear x0 x1 x2 x3 x4 x5 x6 x7 x8 x9 x10 x11;generalize wr.alloc (zC #[zS y.kt,zI y.act,zI y.ty.base,.bool y.ty.k,.bool y.ty.l,.bool y.ty.x,.int .u64 y.sum,zI y.size,zI y.base,zS y.frm,zI y.fnum,zI y.fence] 88)=V1 at hY hA1 |-;generalize wr.heap.size=g7 at hY |-;have HA1:=hd_ hA1;have HY:=hd_ hY;clear hY hA1;refine movedR5 _ (by kernel_rfl) _ (w.heap.size+1) g7 x y V1 (HV.kw HA1 HV.lt) HY ?_
  intro en eo et eu ew eA eB eC eD eE eF eG eH eI eJ eK eL eM eN eO eP eQ eR eS eT eU eV eW eX eY eZ;cases hm:mvB x y
  ·rw[hm] at HN;clear hm;go_wp2_with fail;go_roundw
   exact⟨k+1,by go_num,by rw[HN.out];simp,by omega,HA1⟩
   simp [intOf];omega
  ·rw[hm] at HN;clear hm;go_wp2_with fail;go_roundw
   exact⟨k+1,by go_num,by rw[HN.out];simp,by omega,HA1⟩
   simp [intOf];omega
 ·have hke:k=es.length:=by omega
  subst hke;obtain⟨a0,a1,a2,a3,a4,a5,a6,a7,a8,a9,a10,a11⟩:=z57 (HV.out.kw HI.out HV.out.lt);have HMB:Hid (zgp es x=(decide (zgo es x=1) || (decide (x.act≠5) && decide (x.act≠4)))):=hd_ rfl;have HB:=hd_ (z0r Hb0 HI);rw[ZH];generalize zgo es x=m at HMB |-;by_cases h1:m=1
  ·have HV:Hid (zgp es x=true):=hd_ (by rw[HMB.out];simp [h1])
   subst h1;go_wp2_with fail;go_ret;exact⟨z12 HV.symm,HB⟩
  ·have q1:((m:Int) == 1)=false:=by simp;omega
   by_cases h5:x.act=5
   ·have q5:(x.act != 5)=false:=by simpa using h5
    have HV:Hid (zgp es x=false):=hd_ (by rw[HMB.out];simp [h1,h5])
    clear h1 h5;go_wp2_with fail;go_ret;exact⟨z12 HV.symm,HB⟩
   ·have q5:(x.act != 5)=true:=by simpa using h5
    by_cases h4:x.act=4
    ·have q4:(x.act != 4)=false:=by simpa using h4
     have HV:Hid (zgp es x=false):=hd_ (by rw[HMB.out];simp [h1,h5,h4])
     clear h1 h5 h4;go_wp2_with fail;go_ret;exact⟨z12 HV.symm,HB⟩
    ·have q4:(x.act != 4)=true:=by simpa using h4
     have HV:Hid (zgp es x=true):=hd_ (by rw[HMB.out];simp [h1,h5,h4])
     clear h1 h5 h4;go_wp2_with fail;go_ret;exact⟨z12 HV.symm,HB⟩
end
open Go.Sort (grow)
def zob (pl:List Syn)(h:Hav):Bool:=match stF pl pl.length h.kt with
 | none=>true
 | some i=>((pl[i]?).map fun x=>z5d x.kind).getD true
theorem zoc {pl:List Syn}(hs:z7i pl)(h:Hav):zob pl h=true↔z7z pl (fun _=>false) h.kt:=by
 unfold zob z7z;rw[stF_get hs];cases e:stF pl pl.length h.kt with
 | none=>simp
 | some i =>
  obtain⟨-,hi,-⟩:=zkv (Zd _) e;rw[Zp,Ze hi];simp [Ze hi]
structure Bk2 (w wr:zW)(pl:List Syn)(hs:List Hav)(k:Nat)(QH:List Hav)(qv:zV):Prop where
 own:wr.ownsRow w.heap.size 84 3 qv QH.length (QH.flatMap Hav.cells)
 low:zB w wr
 is:QH=(hs.take k).filter (zob pl)
theorem Bk2.ku {w wr wx:zW}{pl:List Syn}{hs:List Hav}{k:Nat}{QH:List Hav}{qv:zV}(h:Bk2 w wr pl hs k QH qv)(hb:zB wr wx):Bk2 w wx pl hs k QH qv:=⟨z0n h.own hb,z0r h.low hb,h.is⟩
theorem Bk2.skip {w wr:zW}{pl:List Syn}{hs:List Hav}{k:Nat}{QH:List Hav}{qv:zV}(h:Bk2 w wr pl hs k QH qv)(hk:k<hs.length)(e:zob pl hs[k]=false):Bk2 w wr pl hs (k+1) QH qv:=
 ⟨h.own,h.low,by rw[Zr hk,List.filter_append,<- h.is];simp [e]⟩
theorem Bk2.push {w wr wx:zW}{pl:List Syn}{hs:List Hav}{k:Nat}{QH:List Hav}{qv:zV}{A':zP}{c':Nat}(h:Bk2 w wr pl hs k QH qv)(hk:k<hs.length)(e:zob pl hs[k]=true)
  (ho:wx.ownsRow w.heap.size 84 3 (zL A' (QH.length+1) c') (QH.length+1) (QH.flatMap Hav.cells++hs[k].cells)) (hg:wr.grownBy wx qv.ownBlock):Bk2 w wx pl hs (k+1) (QH++[hs[k]]) (zL A' (QH.length+1) c'):=by
 refine⟨?_,h.low.grown hg h.low.size (fun x hx=>(h.own.lt x hx).1),by rw[Zr hk,List.filter_append,<- h.is];simp [e]⟩
 rw[Zc,ZI];have e2:[hs[k]].flatMap Hav.cells=hs[k].cells:=by simp
 rw[e2];exact ho
theorem Bk2.len {w wr:zW}{pl:List Syn}{hs:List Hav}{k:Nat}{QH:List Hav}{qv:zV}(h:Bk2 w wr pl hs k QH qv):QH.length<=hs.length:=by
 rw[h.is];exact Zf (ZS _ _) (by rw[ZK];exact Nat.min_le_right _ _)
theorem zod (pl:List Syn):z7v (fun _=>false) pl=pl:=by
 unfold z7v;have:(z7u fun _=>false)=id:=by funext x;rfl
 rw[this,List.map_id]
theorem zoe (b:zA->Bool)(pl:List Syn):zki b pl<=pl.length:=ZS _ _
theorem bkT9 (T:Code)(hT:Tryz.f74.body.bind (tailAt 9)=some T)(R:Ending->zW->Prop)(X w:zW)(B g c bS bC:Nat)(hs:List Hav)(pl:List Syn)(Ah Ap:zP)(ch:Nat)(hAp:0<pl.length->Ap=some ⟨g,0,none⟩)
  (hI:Bk1 X w bS bC (stF pl pl.length) (zkq pl pl.length)) (hO:zj6 w B (zL Ap pl.length c) pl) (hL:Below B X w) (hH:z5s w (zL Ah hs.length ch) hs) (hOk:z81 hs) (hsrt:z7i pl) (hfrm:∀ x∈pl,x.frm=zk9 hs x.kt)
  (hB:B<=g) (hg:g<X.heap.size) (hn:pl.length<=2000) (hhn:hs.length<=10000)
  (hR:∀ w',zj6 w' B (zL Ap pl.length c) (z7v (blB hs pl) pl)->Below B X w'->R (.returned (.tuple #[])) w')
  (u2 u3 u6 u7 u8 u9 gF gG gH gI gJ gK gL gM gN gO gP gQ gR gT gV gW gX gY gZ i6 i7 i8 ia ib ic ie ig ii ij ik il im io ip iq ir iu iv iw iy iz iA iB iC iD iE iF iG iH iI iJ iK iL iM iN iO iP iQ iR iS iT iU iV iW iX iY iZ j0 j1 j2 j9 jb jd je jf jg jh ji jj jk jl jm jn jo jp jq jr js jt ju bB bD bE bF bG bH bI bJ bK bL bM bN bO bP bQ bT bU bV bW bX bY bZ ca cj cn cx cy:zV):
  T.wp prog (bodyPost prog Tryz.f74 R) ⟨#[zL Ah hs.length ch,zL Ap pl.length c,u2,u3,.map (some bS),.map (some bC),u6,u7,u8,u9,gF,gG,gH,gI,gJ,gK,gL,gM,gN,gO,gP,gQ,gR,gT,gV,gW,gX,gY,gZ,i6,i7,i8,ia,ib,ic,ie,ig,ii,ij,ik,il,im,io,ip,iq,ir,iu,iv,iw,iy,iz,iA,iB,iC,iD,iE,iF,iG,iH,iI,iJ,iK,iL,iM,iN,iO,iP,iQ,iR,iS,iT,iU,iV,iW,iX,iY,iZ,j0,j1,j2,j9,jb,jd,je,jf,jg,jh,ji,jj,jk,jl,jm,jn,jo,jp,jq,jr,js,jt,ju,bB,bD,bE,bF,bG,bH,bI,bJ,bK,bL,bM,bN,bO,bP,bQ,bT,bU,bV,bW,bX,bY,bZ,ca,cj,cn,cx,cy],[]⟩ w:=by
 simp only[Tryz.f74,Zp,tailAt,hasReg] at hT
 simp at hT
 subst hT;have HI:=hd_ hI;have HO:=hd_ hO;have HH:=hd_ hH;have HL:=hd_ hL;have HOK:=hd_ hOk;have HSRT:=hd_ hsrt;have HFRM:=hd_ hfrm;have HR:=hd_ hR;have HXW:=hd_ (hI.low.size);have HGW:=hd_ hg;have HS0:Hid (Bk2 w w pl hs 0 [] (zL none 0 0)):=hd_ ⟨Zv _ _ _ _,Zb _ _,rfl⟩;clear hI hO hL hH hOk hsrt hfrm hR;go_wp2_with fail;go_loopw [8,45] (fun q i wq=>∃(k:Nat) (QH:List Hav) (A:zP) (cq:Nat),q=zL A QH.length cq/\i=zI k/\k<=hs.length/\Hid (Bk2 w wq pl hs k QH q)) (fun _ i _=>hs.length - (intOf i).toNat)
 exact⟨0,[],none,0,rfl,rfl,Zg _,HS0⟩
 obtain⟨k,QH,A,cq,rfl,rfl,hk,HJ⟩:=hrel;clear HS0;by_cases hlt:k<hs.length
 ·have HLT:=hd_ hlt;have hHX:z5s wr (zL Ah hs.length ch) hs:=Row.kw HH HJ.low;obtain⟨ad,rfl,hab,s0,s1,s2⟩:=z5s.at_ hHX hlt;have HSK:=hd_ (HJ.skip hlt);have HPU:=hd_ (fun(A':zP) (c':Nat) (wx:zW) (e:zob pl hs[k]=true) (W:zW) (hb:zB wr W) ho hg=>(HJ.ku hb).push (A':=A') (c':=c') (wx:=wx) hlt e ho hg);have HSP:Hid (zob pl hs[k]=match stF pl pl.length hs[k].kt with | none=>true | some i=>((pl[i]?).map fun x=>z5d x.kind).getD true):=hd_ rfl
  have HQL:=hd_ (show QH.length<=10000 from Zf HJ.out.len hhn);generalize hs[k]=h at s0 s1 s2 HSK HPU HSP;have hA:zB wr (wr.alloc (zC #[zS h.kt,zI h.num,zS h.loc] 84)):=zR;have hbx:=z0l wr [zS h.kt,zI h.num,zS h.loc] 84;have hst:z2l zS natV (wr.alloc (zC #[zS h.kt,zI h.num,zS h.loc] 84)) bS (stF pl pl.length):=z2l.kw (z2l.kw HI.st HJ.low) hA;have hlk:=z2l.lookup hst (z2j underlying9) underlying196 (z:=zI 0) (by rfl) h.kt true
  have HA:=hd_ hA;have HBX:=hd_ hbx;have hown1:zj6 (wr.alloc (zC #[zS h.kt,zI h.num,zS h.loc] 84)) B (zL Ap pl.length c) pl:=z0n (z0n HO HJ.low) hA;have HOX:=hd_ hown1;have HQR:=hd_ (HJ.ku hA).own;clear hHX hbx hst hown1 hab hlt;cases hsf:stF pl pl.length h.kt with
  | none =>
   rw[hsf] at hlk;have hlk2:(Instr.lookup 196 (.map (some bS)) (zS h.kt) true).run prog (wr.alloc (zC #[zS h.kt,zI h.num,zS h.loc] 84))=.ok (.tuple #[zI 0,.bool false]) (wr.alloc (zC #[zS h.kt,zI h.num,zS h.loc] 84)):=hlk;have HYES:Hid (zob pl h=true):=hd_ (by rw[HSP.out,hsf])
   clear hlk hsf;go_upto_region 13 with fail;generalize wr.alloc (zC #[zS h.kt,zI h.num,zS h.loc] 84)=W1 at HA HBX hlk2 HOX HQR |-;clear s0 s1 s2 hA;obtain⟨d0,d1,d2⟩:=z5h (x:=h) HBX.out;have hrow:=z0i W1 [zS h.kt,zI h.num,zS h.loc] 84 3 1 rfl (by unfold maxLen;omega) W1.heap.size rfl
   have hown2:=z0u HQR.out (zC #[zS h.kt,zI h.num,zS h.loc] 84);have HQ2:=hd_ hown2;have HQL2:=HQL.out;have hsz:w.heap.size<=(W1.alloc (zC #[zS h.kt,zI h.num,zS h.loc] 84)).heap.size:=by have:=HJ.out.low.size;have:=HA.out.size;simp;omega
   clear hown2;go_wp2_with (at_builtin;refine z0j rfl rfl z6g HQ2 rfl hrow rfl (z6h h) (by omega) (by unfold maxLen;omega) hsz ?_;intro A' c' w2 hown hgr hob)
   have HN:=hd_ (HPU A' c' w2 HYES (W1.alloc (zC #[zS h.kt,zI h.num,zS h.loc] 84)) (z0r HA (zR)) hown hgr);clear hown hgr hob hrow hlk2 d0 d1 d2;go_wp2_with fail;go_roundw
   exact⟨k+1,QH++[h],A',c',by rw[Zc];rfl,by go_num,by have:=HLT.out;omega,HN⟩
   have:=HLT.out;simp [intOf];omega
  | some i =>
   rw[hsf] at hlk;have hlk2:(Instr.lookup 196 (.map (some bS)) (zS h.kt) true).run prog (wr.alloc (zC #[zS h.kt,zI h.num,zS h.loc] 84))=.ok (.tuple #[zI i,.bool true]) (wr.alloc (zC #[zS h.kt,zI h.num,zS h.loc] 84)):=hlk;obtain⟨-,hi,-⟩:=zkv (Zd _) hsf;obtain rfl:=hAp (by omega)
   have HSB:Hid (zob pl h=z5d pl[i].kind):=hd_ (by rw[HSP.out,hsf];simp [Ze hi])
   obtain⟨hsy,-⟩:=zj6.cell HOX.out hi;generalize pl[i]=y at HSB hsy;clear hlk hsf;go_upto_region 14 with fail;generalize wr.alloc (zC #[zS h.kt,zI h.num,zS h.loc] 84)=W1 at HA HBX hsy HOX HQR |-;clear s0 s1 s2 hA hlk2;obtain⟨y0,y1,y2,y3,y4⟩:=hsy;have HST:=hd_ (z5j y W1);cases hb:z5d y.kind with
   | false =>
    rw[hb] at HST HSB;have HNO:=hd_ (HSK HSB);clear hb;go_wp2_with fail;refine HST.mono ?_;rintro e w2 ⟨rfl,hb2⟩;dsimp only;have HN:=hd_ (HNO.ku (z0r HA hb2));clear hb2 y0 y1 y2 y3 y4;go_wp2_with fail;go_roundw
    exact⟨k+1,QH,A,cq,rfl,by go_num,by have:=HLT.out;omega,HN⟩
    have:=HLT.out;simp [intOf];omega
   | true =>
    rw[hb] at HST HSB;clear hb;go_wp2_with fail;refine HST.mono ?_;rintro e w2 ⟨rfl,hb2⟩;dsimp only;have HA2:=hd_ (z0r HA hb2);have HBX2:=hd_ (HBX.kw hb2 HBX.lt);have HQR2:=hd_ (z0n HQR hb2);clear hb2 y0 y1 y2 y3 y4;obtain⟨d0,d1,d2⟩:=z5h (x:=h) HBX2.out;have hrow:=z0i w2 [zS h.kt,zI h.num,zS h.loc] 84 3 1 rfl (by unfold maxLen;omega) w2.heap.size rfl
    have hown2:=z0u HQR2.out (zC #[zS h.kt,zI h.num,zS h.loc] 84);have HQ2:=hd_ hown2;have HQL2:=HQL.out;have hsz:w.heap.size<=(w2.alloc (zC #[zS h.kt,zI h.num,zS h.loc] 84)).heap.size:=by have:=HJ.out.low.size;have:=HA2.out.size;simp;omega
    clear hown2;go_wp2_with (at_builtin;refine z0j rfl rfl z6g HQ2 rfl hrow rfl (z6h h) (by omega) (by unfold maxLen;omega) hsz ?_;intro A' c' w3 hown hgr hob)
    have HN:=hd_ (HPU A' c' w3 HSB (w2.alloc (zC #[zS h.kt,zI h.num,zS h.loc] 84)) (z0r HA2 (zR)) hown hgr);clear hown hgr hob hrow d0 d1 d2;go_wp2_with fail;go_roundw
    exact⟨k+1,QH++[h],A',c',by rw[Zc];rfl,by go_num,by have:=HLT.out;omega,HN⟩
    have:=HLT.out;simp [intOf];omega
 ·have hke:k=hs.length:=by omega
  subst hke;have HQE:Hid (QH=hs.filter (zob pl)):=hd_ (by have:=HJ.out.is;rw[ZH] at this;exact this)
  have HLW:=hd_ HJ.low;have HQN:=hd_ HJ.len;have HT:=hd_ (fun(T:Code) hT=>bkT17 T hT R X wr B w.heap.size g c bC (hs.length+pl.length) Ap hs pl hAp QH A cq ⟨⟨by rw[zod];exact z0n HO HJ.low,(HI.com.keep (fun x hx _=>HJ.low.block x hx)),HL.trans (HJ.low.mono (by have:=HXW.out;have:=HGW.out;omega)),zj9.of_own HJ.own,HJ.low.size⟩,by
   refine bk_init hs pl _ fun q=>?_;rw[HQE.out,ZD];constructor
   ·rintro⟨h,hm,rfl⟩;obtain⟨m1,m2⟩:=List.mem_filter.1 hm;exact⟨h,m1,rfl,(zoc HSRT h).1 m2⟩
   ·rintro⟨h,m1,e,m2⟩;exact⟨h,List.mem_filter.2 ⟨m1,(zoc HSRT h).2 m2⟩,e⟩,by have:=zoe (fun _=>false) pl;have:=HQN.out;omega⟩ HOK HSRT HFRM hB hg HXW HI.leC (by omega) (by omega) HR)
  clear HJ;rename ∀ a w,Code.wp _ (Code.block 4 _) _ a w->_=>hk7
  have HK7:=hd_ hk7;clear hk7;go_wp2_with fail;exact HK7 _ _ (HT _ (by kernel_rfl) _ _ _ _ _ _ _ _ _ _ _ _ _ _ _ _ _ _ _ _ _ _ _ _ _ _ _ _ _ _ _ _ _ _ _ _ _ _ _ _ _ _ _ _ _ _ _ _ _ _ _ _ _ _ _ _ _ _ _ _ _ _ _ _ _ _ _ _ _ _ _ _ _ _ _ _ _ _ _ _ _ _ _ _ _ _ _ _ _ _ _ _ _ _ _ _ _ _ _ _ _ _ _ _ _ _ _ _ _ _ _ _ _ _ _ _ _ _ _ _ _ _ _ _)
theorem zkp.grownMap {w w':zW}{B U b bS:Nat}{f:zA->List Nat}(h:zkp w B U b f)(hg:w.grownBy w' (some bS))(hne:bS≠b)(hm:∃ es c,w.heap[bS]? = some (.map es c)):zkp w' B U b f:=by
 obtain⟨g,h1,h2,h3,h4,h5⟩:=h;obtain⟨es,cc,hm⟩:=hm;refine⟨g,h1.grown hg (fun e=>hne (by injection e with e;exact e.symm)),fun k=>(h2 k).kept hg ?_,h3,h4,h5⟩
 by_cases hb:(zkk g k).ownBlock=some bS
 ·exact absurd hm (fun hm=>zkn (h2 k) hb hm)
 ·exact .inr hb
theorem zof (hs:List Hav)(pl:List Syn)(Ah Ap:zP)(ch g c B:Nat)(X:zW)(hAp:0<pl.length->Ap=some ⟨g,0,none⟩)(hH:z5s X (zL Ah hs.length ch) hs)(hO:zj6 X B (zL Ap pl.length c) pl)(hOk:z81 hs)(hsrt:z7i pl)(hfrm:∀ x∈pl,x.frm=zk9 hs x.kt)
  (hB:B<=g) (hg:g<X.heap.size) (hn:pl.length<=2000) (hhn:hs.length<=10000):
  Calls prog 74 #[zL Ah hs.length ch,zL Ap pl.length c] X fun e w'=>e=.returned (.tuple #[])/\zj6 w' B (zL Ap pl.length c) (z7v (blB hs pl) pl)/\Below B X w':=by
 have HO:=hd_ hO;have HH:=hd_ hH;have HOK:=hd_ hOk;have HSRT:=hd_ hsrt;have HFRM:=hd_ hfrm;have hmm:=@run_makeMap prog;have HI0:Hid (Bk1 X ((X.alloc (.map #[] 0)).alloc (.map #[] 0)) X.heap.size (X.heap.size+1) (stF pl 0) (zkq pl 0)):=hd_ (by
  refine⟨(zR).alloc (by simp) _,(z2l.new zS natV X).alloc _,?_,by omega,by omega⟩
  have:=zkp.new (X.alloc (.map #[] 0)) X.heap.size;have e:(X.alloc (.map #[] 0)).heap.size=X.heap.size+1:=by simp
  rw[e] at this;exact this.upTo (by simp))
 clear hO hH hOk hsrt hfrm;go_enter func74,ntmps74;go_upto_region 2 with fail;clear hmm;try simp only[Zl]
 generalize (X.alloc (.map #[] 0)).alloc (.map #[] 0)=W0 at HI0 |-;go_wp2_with fail;go_loopw [20] (fun i wr=>∃ k:Nat,i=zI k/\k<=pl.length/\Hid (Bk1 X wr X.heap.size (X.heap.size+1) (stF pl k) (zkq pl k))) (fun i _=>pl.length - (intOf i).toNat)
 exact⟨0,rfl,Zg _,HI0⟩
 obtain⟨k,rfl,hk,HJ⟩:=hrel;clear HI0;by_cases hlt:k<pl.length
 ·have HLT:=hd_ hlt;obtain rfl:=hAp (by omega)
  obtain⟨⟨y0,y1,y2,y3,y4⟩,-⟩:=zj6.cell (z0n HO.out HJ.out.low) hlt;have HSF:=hd_ (zku hlt);have HCN:=hd_ (comF_no hlt);have HCY:=hd_ (zkr hlt);generalize pl[k]=x at y0 y1 y2 y3 y4 HSF HCN HCY;have hA:zB wr (wr.alloc (zC #[zI x.kind,zS x.kt,zI x.num,zS x.frm,zS x.dst] 99)):=zR;have hJ1:=HJ.out.ku hA;obtain⟨w3,hup,hM3,hg3,hs3⟩:=z2l.update (w:=wr.alloc (zC #[zI x.kind,zS x.kt,zI x.num,zS x.frm,zS x.dst] 99)) hJ1.st (z2j underlying9) underlying196 x.kt k;have hup2:(Instr.mapUpdate 196 (.map (some X.heap.size)) (zS x.kt) (zI k)).run prog (wr.alloc (zC #[zI x.kind,zS x.kt,zI x.num,zS x.frm,zS x.dst] 99))=.ok () w3:=hup;have HX3:Hid (Blk w3 wr.heap.size 99 [zI x.kind,zS x.kt,zI x.num,zS x.frm,zS x.dst]):=hd_ ((z0l wr [zI x.kind,zS x.kt,zI x.num,zS x.frm,zS x.dst] 99).grown hg3 (fun e=>by injection e with e;have:=HJ.out.st.lt;omega))
  have HJ3:Hid (Bk1 X w3 X.heap.size (X.heap.size+1) (stF pl (k+1)) (zkq pl k)):=hd_
   ⟨hJ1.low.grown hg3 hJ1.low.size (fun y e=>by injection e with e;omega),by rw[HSF.out];exact hM3,by rw[hs3];exact hJ1.com.grownMap hg3 hJ1.ne (zko hJ1.st),hJ1.ne,hJ1.leC⟩
  have HSZ:=hd_ HJ3.low.size;have hxb:=z0l wr [zI x.kind,zS x.kt,zI x.num,zS x.frm,zS x.dst] 99;obtain⟨z0,z1,z2,z3,z4⟩:=z5g (x:=x) hxb;have hls:(zkq pl k x.dst).length<=1000000:=Zf (zks _ _ _) (by omega)
  have HLS:=hd_ hls;clear hA hJ1 hup hM3 hg3 hs3 hxb hls HJ;go_upto_region 6 with fail;clear hup2 y0 y1 y2 y3 y4 z0 z1 z2 z3 z4;generalize wr.heap.size=g7 at HX3 |-;obtain⟨z0,z1,z2,z3,z4⟩:=z5g (x:=x) HX3.out;by_cases hd:x.dst=z2r
  ·obtain⟨s1,s2⟩:=z5k hd;have HN:Hid (Bk1 X w3 X.heap.size (X.heap.size+1) (stF pl (k+1)) (zkq pl (k+1))):=hd_ (by rw[HCN.out hd];exact HJ3)
   clear hd;go_wp2_with fail;go_roundw
   exact⟨k+1,by go_num,by have:=HLT.out;omega,HN⟩
   have:=HLT.out;simp [intOf];omega
  ·obtain⟨s1,s2⟩:=z5l hd;have HCF:=hd_ (HCY hd);clear hd;go_upto_region 7 with fail;refine bkR7 _ (by kernel_rfl) _ X w3 g7 X.heap.size (X.heap.size+1) (stF pl (k+1)) (zkq pl k) x k HJ3 HX3 HLS HSZ ?_
   intro eM eN eO eP eQ eR eS eT eU eV w4 HN;rw[<- HCF.out] at HN;go_wp2_with fail;go_roundw
   exact⟨k+1,by go_num,by have:=HLT.out;omega,HN⟩
   have:=HLT.out;simp [intOf];omega
 ·have hke:k=pl.length:=by omega
  subst hke;have HT:=hd_ (fun(T:Code) hT=>bkT9 T hT (fun e w'=>e=.returned (.tuple #[])/\zj6 w' B (zL Ap pl.length c) (z7v (blB hs pl) pl)/\Below B X w') X wr B g c X.heap.size (X.heap.size+1) hs pl Ah Ap ch hAp HJ (z0n HO HJ.low) (HJ.low.mono (by omega)) (Row.kw HH HJ.low) HOK HSRT HFRM hB hg hn hhn (fun w' h1 h2=>⟨rfl,h1,h2⟩))
  clear HJ;rename ∀ a w,Code.wp _ (Code.seq (Code.region 9 _ _) _) _ a w->_=>hk7
  have HK7:=hd_ hk7;clear hk7;go_wp2_with fail;exact HK7 _ _ (HT _ (by kernel_rfl) _ _ _ _ _ _ _ _ _ _ _ _ _ _ _ _ _ _ _ _ _ _ _ _ _ _ _ _ _ _ _ _ _ _ _ _ _ _ _ _ _ _ _ _ _ _ _ _ _ _ _ _ _ _ _ _ _ _ _ _ _ _ _ _ _ _ _ _ _ _ _ _ _ _ _ _ _ _ _ _ _ _ _ _ _ _ _ _ _ _ _ _ _ _ _ _ _ _ _ _ _ _ _ _ _ _ _ _ _ _ _ _ _ _ _ _ _ _ _ _ _ _ _)
theorem zr8 (p:Pat)(b:Bool)(hbr:p.kr=b)(caps:List zA)(A:zP)(a:Nat)(cv:zV)(w:zW)(he:Env w)(hp:zbx w (zL A p.kp.length a) p)(hc:z20 w cv caps)(hf:zco p caps):
  Calls prog 170 #[.agg #[zL A p.kp.length a,.bool b],cv] w fun e w'=>e=.returned (.tuple #[zS (zcn p caps),zI 0])/\zB w w':=by
 have hB:=z0l w [zL A p.kp.length a,.bool b] 56;have hA:zB w (w.alloc (zC #[zL A p.kp.length a,.bool b] 56)):=zR;have HKC:Hid (∀ X,zB w X->Calls prog 40 #[.agg #[zL A p.kp.length a,.bool b]] X fun e w'=>e=.returned (zI 0)/\zB X w'):=hd_ (fun X hX=>by have:=zd3 p A a X (hp.kw hX).1 hp.small;rw[hbr,hf.pat] at this;exact this)
 have HW:=hd_ (fun X (hX:zB w X)=>zr4 p b hbr A a X (hp.kw hX) hf.pat);have HP:=hd_ hp;have HC:=hd_ hc;have HF:=hd_ hf;have HE:=hd_ he;have hl12:=zcc hf.pat;have hs12:zbq p<=12:=Zf (ZS ..) hl12;obtain⟨Ac,cc,rfl,-⟩:=id hc;obtain⟨nc,hnc⟩:∃ nc,caps.length=nc:=⟨_,rfl⟩;have hlen:nc=zbq p+(if b then 1 else 0):=hnc.symm.trans (by rw[hf.len,hbr])
 have HNC:=hd_ hnc;rw[hnc];have HBR:=hd_ hbr;clear hp hc hf he hnc hbr;rw[<- hlen] at HW;have HLEN:=hd_ hlen;have q0:((nc:Int) != (nc:Int))=false:=by simp
 clear hlen;go_enter func170,ntmps170;go_upto_region 1 with fail;generalize w.alloc (zC #[zL A p.kp.length a,.bool b] 56)=W1 at hB hA |-;have d0:W1.cell? ⟨w.heap.size,0,none⟩=some (.slice A p.kp.length a):=hB.cell 0;have d1:W1.cell? ⟨w.heap.size,1,none⟩=some (.bool b):=hB.cell 1;have HB:=hd_ hB;have HA:=hd_ hA;have HK1:=hd_ (HKC W1 hA);clear hB hA HKC;go_wp2_with fail;refine HK1.mono ?_;rintro e w2 ⟨rfl,hb⟩;dsimp only;have HA2:=hd_ (z0r HA hb);have HB2:=hd_ (HB.kw hb HB.lt);have HW2:=hd_ (HW w2 HA2);clear hb d0 d1 HK1 HB HA HW;have d0:w2.cell? ⟨w.heap.size,0,none⟩=some (.slice A p.kp.length a):=HB2.cell 0;have d1:w2.cell? ⟨w.heap.size,1,none⟩=some (.bool b):=HB2.cell 1;go_wp2_with fail;refine HW2.mono ?_;rintro e w3 ⟨rfl,hb⟩;dsimp only;have HA3:=hd_ (z0r HA2 hb);have HB3:=hd_ (HB2.kw hb HB2.lt);clear hb d0 d1 HW2 HB2 HA2;have d0:w3.cell? ⟨w.heap.size,0,none⟩=some (.slice A p.kp.length a):=HB3.cell 0;go_wp2_with fail;go_loopw [7,8,28] (fun av z i wr=>∃(k:Nat) (done:List zA) (A2:zP) (c2:Nat),i=zI k/\z=zI (zbp p.kp k)/\av=zL A2 k c2/\k<=p.kp.length/\Hid (RfSt w3 wr p.kp caps k done av)) (fun _ _ i _=>p.kp.length - (intOf i).toNat)
 exact⟨0,[],_,_,rfl,by simp [zbp],rfl,Zg _,hd_ ⟨Zb _ _,Zv _ _ _ _,rfl,by simp [zbp]⟩⟩
 obtain⟨k,done,A2,c2,rfl,rfl,rfl,hk,HI⟩:=hrel;clear d0;by_cases hlt:k<p.kp.length
 ·have HPX:=hd_ (HP.kw (z0r HA3 HI.low));obtain⟨ad,rfl,hab,s0⟩:=z20.at_ HPX.out.1 hlt;have hform:=zd5 HF.out.pat hlt;have HT:Hid (∀ X,Calls prog 85 #[zS p.kp[k]] X fun e w'=>e=.returned (.tuple #[zS (if z8r p.kp[k] then za5 p.kp[k] else z2r),.bool (z8r p.kp[k])])/\X=w'):=hd_ (fun X=>by
   have:=zbg p.kp[k] X (HP.out.small _ (Za hlt));unfold zbd at this;rw[zb4 hform] at this;exact this)
  have HSZ:=hd_ (HP.2 _ (Za hlt));have HLT:=hd_ hlt;have HSP:=hd_ (fun wy av'=>HI.plain (wy:=wy) (av':=av') hlt);have HSS:=hd_ (fun wy av' r c=>HI.star (wy:=wy) (av':=av') (r:=r) (c:=c) hlt);have HRM:=hd_ (fun h=>zcu hlt h);have HNX:=hd_ (zbr hlt);have HSU:=hd_ (show (za5 p.kp[k]).size<=p.kp[k].size from by unfold za5;rw[ByteArray.size_extract];omega)
  generalize p.kp[k]=part at s0 HT HSP HSS HRM HSZ HNX HSU;obtain⟨st,hst⟩:∃ st,z8r part=st:=⟨_,rfl⟩;have HST:=hd_ hst;rw[hst] at HT HNX;clear hst hab hform;have HOW:=hd_ HI.own;have HBI:=hd_ HI.low;cases st with
  | false =>
   have hnx:zbp p.kp (k+1)=zbp p.kp k:=by rw[HNX.out];rfl
   have HNX2:=hd_ hnx;clear hnx;go_wp2_with fail;refine (HT _).mono ?_;rintro e w' ⟨rfl,rfl⟩;dsimp only;go_wp2_with (at_builtin;refine z0k rfl rfl zac (z0n HOW (zR)) rfl (z0i _ [zS part] _ 1 1 rfl (by decide) _ (by simp)) rfl (HBI.alloc HBI.size _) (HBI.alloc HBI.size _).size (by simp [Value.oneCell']) (by omega) (by unfold maxLen;omega) ?_;intro A' c' w5 hown5 hbl5)
   have HN:=hd_ (HSP w5 (zL A' (k+1) c') HST hbl5 (by rw[Zs];exact hown5))
   clear hown5 hbl5;go_wp2_with fail;go_roundw
   exact⟨k+1,done++[part],_,_,by go_num,by rw[HNX2.out],rfl,by have:=HLT.out;omega,HN⟩
   have:=HLT.out;simp [intOf];omega
  | true =>
   have hroom:=HRM.out HST.out;have h3:=HF.out.len;have hlc:zbp p.kp k<caps.length:=by omega
   obtain⟨ad3,rfl,hab3,t0⟩:=z20.at_ (A:=Ac) (c:=cc) (by have:=HC.out.kw (z0r HA3.out HI.out.low);exact this) hlc
   have hcr:caps.drop (zbp p.kp k)=caps[zbp p.kp k] :: caps.drop (zbp p.kp k+1):=Zo hlc;have hmem:caps[zbp p.kp k]∈caps.take (zbq p):=List.mem_take_iff_getElem.2 ⟨zbp p.kp k,by omega,rfl⟩
   generalize caps[zbp p.kp k]=c at t0 hcr hmem;have HCO:=hd_ (fun X=>z9t c X (by have:=HF.out.size c (List.mem_of_mem_take hmem);unfold maxLen;omega))
   rw[HF.out.comp c hmem] at HCO;have HCR:=hd_ hcr;have hcz:c.size<=1000000:=HF.size c (List.mem_of_mem_take hmem);have z0:(zbp p.kp k:Int)<(nc:Int):=by have:=HNC.out;omega
   have HS12:Hid (zbp p.kp k<=12):=hd_ (by omega)
   have hnx:zbp p.kp (k+1)=zbp p.kp k+1:=by rw[HNX.out];rfl
   have HNX2:=hd_ hnx;have hsu:(za5 part).size<=30000000:=Zf HSU HSZ;have z1:¬ 9223372036854775807<c.size+(za5 part).size:=by omega
   have q9:IntKind.i64.wrap ((zbp p.kp k:Int)+1)=((zbp p.kp k+1:Nat):Int):=by rw[IntKind.wrap_i64];have:=HS12.out;omega
   generalize hsf:za5 part=sf at HT HSS z1;clear hcr hab3 hmem hroom h3 hlc hnx hsf;go_wp2_with fail;refine (HT _).mono ?_;rintro e w' ⟨rfl,rfl⟩;dsimp only;go_wp2_with fail;refine (HCO _).mono ?_;rintro e w' ⟨rfl,rfl⟩;dsimp only;clear s0;go_wp2_with (at_builtin;refine z0k rfl rfl zac (z0n HOW (zR)) rfl (z0i _ [zS (c++sf)] _ 1 1 rfl (by decide) _ (by simp)) rfl (HBI.alloc HBI.size _) (HBI.alloc HBI.size _).size (by simp [Value.oneCell']) (by omega) (by unfold maxLen;omega) ?_;intro A' c' w5 hown5 hbl5)
   have HN:=hd_ (HSS w5 (zL A' (k+1) c') _ c HST HCR hbl5 (by rw[Zs];exact hown5))
   clear hown5 hbl5;go_wp2_with fail;go_roundw
   exact⟨k+1,done++[c++sf],_,_,by go_num,by rw[HNX2.out];first | rfl | (simp;done) | (congr 1;have:=HS12.out;simp [wrap64];omega),rfl,by have:=HLT.out;omega,HN⟩
   have:=HLT.out;simp [intOf];omega
 ·have hke:k=p.kp.length:=by omega
  subst hke;have HFA:Hid (zcl p.kp caps=done):=hd_ (by
   have:=HI.out.is;rw[Yd] at this;rw[<- this];unfold zcl;simp)
  have hge:¬((p.kp.length:Int)<(p.kp.length:Int)):=by omega
  have HOW:=hd_ HI.own;have HLW:=hd_ HI.low;have HLN:=hd_ HI.len;have d1:wr.cell? ⟨w.heap.size,1,none⟩=some (.bool b):=(HB3.kw HLW HB3.lt).cell 1;cases b with
  | false =>
   have HFB:Hid (zcm p caps=done):=hd_ (by unfold zcm;rw[HBR.out,HFA.out];simp)
   have hpos:0<p.kp.length:=by have h1:=HF.out.some;rw[HFB.out,HLN.out] at h1;exact h1
   obtain⟨gq,cq,eq⟩:=z0s HOW.out hpos;injection eq with eq1 eq2 eq3
   subst eq1 eq3;have hJ:=za4 (done.map (·.data.toList)) gq 0 c2 wr (fun j hj=>by
    rw[Zk] at hj;rw[ZV];have:=(zc0 HOW.out (j:=j) (u:=zS done[j]) (by rw[ZA,Ze hj];rfl)).1
    exact this.trans (by rw[zcp])) (by rw[Zk,HLN.out];exact hpos) (by rw[Zk,HLN.out];exact (zcq HOW).1) (by rw[Zk,HLN.out];omega) (by have:=HF.out.join;rw[HFB.out] at this;omega)
   rw[Zk,HLN.out] at hJ;have HJ:=hd_ hJ;have HST:Hid (zcn p caps=baL (z9k (done.map (·.data.toList)))):=hd_ (by unfold zcn;rw[HFB.out])
   clear hJ HI;go_wp2_with fail;refine HJ.mono ?_;rintro e w6 ⟨rfl,hb6⟩;dsimp only;have HB6:=hd_ (z0r HA3 (z0r HLW hb6));clear hb6;go_wp2_with fail;go_ret2;exact⟨by rw[HST.out];rfl,HB6⟩
  | true =>
   have hdl:(caps.drop (zbq p)).length=1:=by rw[Zu,HF.out.len,HBR.out];simp
   obtain⟨c,hcc⟩:=List.length_eq_one_iff.1 hdl;have hlc:zbq p<caps.length:=by rw[HNC.out];have:=HLEN.out;simp at this;omega
   have e5:caps[zbq p]=c:=by have h5:=Zo hlc;rw[hcc] at h5;injection h5 with h5 _;exact h5.symm
   obtain⟨ad3,rfl,hab3,t0⟩:=z20.at_ (A:=Ac) (c:=cc) (by have:=HC.out.kw (z0r HA3.out HLW.out);exact this) hlc
   rw[e5] at t0;have hcm:c∈caps:=ZW (by rw[hcc];exact Zj ..)
   have HCZ:=hd_ (HF.size c hcm);have HCL:=hd_ (HF.last HBR c (by rw[hcc];exact Zj ..))
   have HFB:Hid (zcm p caps=done++[c]):=hd_ (by unfold zcm;rw[HBR.out,HFA.out,if_pos rfl,hcc])
   have HSP:=hd_ (z9e c wr (HE.kw (z0r HA3 HLW)) (by have:=HCZ.out;omega))
   have HSN:=hd_ (fun q (hq:q∈z1e c.data.toList)=>(z1i hq).2);have HJN:Hid (Lib.join ((done.map (·.data.toList))++z1e c.data.toList) [47]=Lib.join ((zcm p caps).map (·.data.toList)) [47]):=hd_ (by rw[zr7,HFB.out,Zs];rfl)
   have HPO:Hid (0<(z1e c.data.toList).length):=hd_ (List.length_pos_iff.2 (z1f _));have hn0:(zbp p.kp p.kp.length:Int)<(nc:Int):=by rw[zbs,<- HNC.out];omega
   rw[zbs] at hn0 |-;clear hdl hcc hab3 hcm e5 hlc HI;go_wp2_with fail;refine HSP.mono ?_;rintro e w5 ⟨rfl,hw5⟩;dsimp only;have hb5:zB wr w5:=hw5 ▸ zR;have hk5:Blk w5 wr.heap.size 9 (z9a (z1e c.data.toList)):=hw5 ▸ z0l wr _ _;have HL5:=hd_ (z0r HLW hb5);have HK5:=hd_ hk5;have HO5:=hd_ (z0n HOW hb5);have HNE:Hid ((zL A2 p.kp.length c2).ownBlock≠some wr.heap.size):=hd_ (fun e=>by have:=(HOW.out.lt _ e).2;omega)
   have hsl:(z1e c.data.toList).length<=1000001:=by have:=z1k c.data.toList;have h2:=HCZ.out;have:c.data.toList.length=c.size:=rfl;omega
   clear hw5 hb5 hk5 t0 d1 hn0;generalize wr.heap.size=g5 at HK5 HNE |-;generalize z1e c.data.toList=ps at HCL HSN HK5 HJN HPO hsl |-;go_wp2_with fail;go_loopw [7,65] (fun av i wr=>∃(j:Nat) (A4:zP) (c4:Nat),i=zI j/\av=zL A4 (p.kp.length+j) c4/\j<=ps.length/\Hid (zB w3 wr/\Blk wr g5 9 (z9a ps)/\wr.ownsRow w3.heap.size 9 1 av (p.kp.length+j) ((done++(ps.take j).map baL).map .string)/\av.ownBlock≠some g5)) (fun _ i _=>ps.length - (intOf i).toNat)
   exact⟨0,_,_,rfl,rfl,Zg _,hd_ ⟨HL5,HK5,by simpa using HO5.out,HNE.out⟩⟩
   obtain⟨j,A4,c4,rfl,rfl,hj,HI⟩:=hrel;by_cases hlt:j<ps.length
   ·have t1:=HI.out.2.1.strs j hlt;have HCO:=hd_ (fun X=>z9t (baL ps[j]) X (by rw[z9c];have:=HSN.out _ (Za hlt);have:=HCZ.out;have:c.data.toList.length=c.size:=rfl;unfold maxLen;omega))
    have hcp:z0z (baL ps[j])=true:=ZB.1 HCL _ (Za hlt);rw[hcp] at HCO;have HTK:Hid ((ps.take (j+1)).map baL=(ps.take j).map baL++[baL ps[j]]):=hd_ (by rw[Zr hlt,Zs];rfl)
    generalize baL ps[j]=pk at t1 HCO HTK;have HLT:=hd_ hlt;have HOW:=hd_ (z0n HI.2.2.1 ((Zb wr.heap.size wr).alloc (Zd _) (zC #[zS pk] 9)));have HBW:=hd_ (HI.1.alloc HI.1.size (zC #[zS pk] 9));have HKW:=hd_ (HI.2.1.alloc (zC #[zS pk] 9));have hrow:=z0i wr [zS pk] 9 1 1 rfl (by unfold maxLen;omega) wr.heap.size rfl
    clear hcp;go_wp2_with fail;refine (HCO _).mono ?_;rintro e w' ⟨rfl,rfl⟩;dsimp only;go_wp2_with (at_builtin;refine z0j rfl rfl strElem HOW rfl hrow rfl (by simp [Value.oneCell']) (by omega) (by unfold maxLen;omega) HBW.size ?_;intro A' c' w6 hown hgr hob)
    have HN:Hid (zB w3 w6/\Blk w6 g5 9 (z9a ps)/\w6.ownsRow w3.heap.size 9 1 (zL A' (p.kp.length+j+1) c') (p.kp.length+j+1) ((done++(ps.take (j+1)).map baL).map .string)/\(zL A' (p.kp.length+j+1) c').ownBlock≠some g5):=hd_ ⟨zr5 HBW hgr (fun k e=>(HOW.lt k e).1),HKW.grown hgr (fun e=>HI.2.2.2 e.symm),by rw[HTK.out,<- ZE,Zs];exact hown,by
     rcases hob with e | e
     ·rw[e];exact HI.2.2.2
     ·rw[e];intro e2;injection e2 with e2;have:=HI.out.2.1.lt;simp at e2;omega⟩
    clear hown hgr hob hrow t1;go_wp2_with fail;go_roundw
    exact⟨j+1,A',c',by go_num,by first | rfl | simp [Nat.add_assoc],by have:=HLT.out;omega,HN⟩
    have:=HLT.out;simp [intOf];omega
   ·have hke:j=ps.length:=by omega
    subst hke;have hge2:¬((ps.length:Int)<(ps.length:Int)):=by omega
    have HO6:Hid (wr.ownsRow w3.heap.size 9 1 (zL A4 (p.kp.length+ps.length) c4) (p.kp.length+ps.length) ((done++ps.map baL).map .string)):=hd_ (by have:=HI.out.2.2.1;rw[ZH] at this;exact this)
    have HB6:=hd_ HI.1;obtain⟨gq,cq,eq⟩:=z0s HO6.out (by have:=HPO.out;omega)
    injection eq with eq1 eq2 eq3
    subst eq1 eq3;have hll:((done++ps.map baL).map (·.data.toList)).length=p.kp.length+ps.length:=by rw[Zk,Zc,Zk,HLN.out]
    have hml:(done++ps.map baL).map (·.data.toList)=done.map (·.data.toList)++ps:=by rw[Zs,List.map_map];congr 1;simp [Function.comp_def,baL]
    have hJ:=za4 ((done++ps.map baL).map (·.data.toList)) gq 0 c4 wr (fun j hj=>by
     rw[Zk] at hj;rw[ZV];have:=(zc0 HO6.out (j:=j) (u:=zS (done++ps.map baL)[j]) (by rw[ZA,Ze hj];rfl)).1
     exact this.trans (by rw[zcp])) (by rw[hll];have:=HPO.out;omega) (by rw[hll];exact (zcq HO6).1) (by rw[hll];omega) (by rw[hml,HJN.out];have:=HF.out.join;omega)
    rw[hll] at hJ;have HJ:=hd_ hJ;have HST:Hid (zcn p caps=baL (z9k ((done++ps.map baL).map (·.data.toList)))):=hd_ (by unfold zcn z9k;rw[hml,HJN.out])
    clear hJ HI hll hml;go_wp2_with fail;refine HJ.mono ?_;rintro e w7 ⟨rfl,hb7⟩;dsimp only;have HB7:=hd_ (z0r HA3 (z0r HB6 hb7));clear hb7;go_wp2_with fail;go_ret2;exact⟨by rw[HST.out];rfl,HB7⟩
theorem zr9 (p:Pat)(caps:List zA)(A:zP)(a:Nat)(cv:zV)(w:zW)(he:Env w)(hp:zbx w (zL A p.kp.length a) p)(hc:z20 w cv caps)(hf:zco p caps):
  Calls prog 170 #[.agg #[zL A p.kp.length a,.bool p.kr],cv] w fun e w'=>e=.returned (.tuple #[zS (zcn p caps),zI 0])/\zB w w':=zr8 p p.kr rfl caps A a cv w he hp hc hf
