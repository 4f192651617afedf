/- A part of the proof. -/
import Derived.Test.YtegeboijhifmcaaGreatDoorMgs36
import Derived.Test.YtegeboijhifmcaaGreatDoorMgs34
set_option linter.unusedVariables false
set_option linter.unusedSimpArgs false
set_option maxHeartbeats 16000000
set_option maxRecDepth 100000
namespace Go.Proofs.YtegeboijhifmcaaGreatDoor
open Go.Proofs.Tryz
open Go.RowKit
theorem zib (D:List Rev)(es:List Edt)(num:Int)(Ar Aq Ae:Option Addr)(cr cq ce:Nat)(w:World)(he:Env w)(hR:z45 w (.slice Ar D.length cr) D)(hl:D.length≤1000)(hE:z47 w (.slice Ae es.length ce) es)(hel:es.length≤6)
  (hsz:∀ e∈es,e.path.size≤2000000∧0≤e.base∧e.base≤1000000):
  Calls prog 86 #[.agg #[.slice Ar D.length cr,.slice Aq 0 cq],.agg #[.int .i64 num,.string ⟨#[]⟩,.string ⟨#[]⟩,.slice Ae es.length ce,.slice none 0 0]] w (zi4 w):=by
 have hb0:Below w.heap.size w ((w.alloc (.cells #[.slice Ar D.length cr,.slice Aq 0 cq] 26)).alloc (.cells #[.int .i64 num,.string ⟨#[]⟩,.string ⟨#[]⟩,.slice Ae es.length ce,.slice none 0 0] 95)):=((Below.refl _ _).alloc (Nat.le_refl _) _).alloc (by simp) _
 have hC:Blk ((w.alloc (.cells #[.slice Ar D.length cr,.slice Aq 0 cq] 26)).alloc (.cells #[.int .i64 num,.string ⟨#[]⟩,.string ⟨#[]⟩,.slice Ae es.length ce,.slice none 0 0] 95)) (w.heap.size+1) 95 [.int .i64 num,.string ⟨#[]⟩,.string ⟨#[]⟩,.slice Ae es.length ce,.slice none 0 0]:=by
  have h1:=z0l (w.alloc (.cells #[.slice Ar D.length cr,.slice Aq 0 cq] 26)) [.int .i64 num,.string ⟨#[]⟩,.string ⟨#[]⟩,.slice Ae es.length ce,.slice none 0 0] 95;simp only[World.size_alloc] at h1
  exact h1
 have hD:Blk ((w.alloc (.cells #[.slice Ar D.length cr,.slice Aq 0 cq] 26)).alloc (.cells #[.int .i64 num,.string ⟨#[]⟩,.string ⟨#[]⟩,.slice Ae es.length ce,.slice none 0 0] 95)) w.heap.size 26 [.slice Ar D.length cr,.slice Aq 0 cq]:=(z0l w _ _).alloc _;have HRV:=hd_ (fun X (hX:Below w.heap.size w X)=>z45.below hR hX);have HEV:=hd_ (fun X (hX:Below w.heap.size w X)=>z47.below hE hX);have HED:=hd_ (fun(i:Nat) (hi:i<es.length) X (hX:Below w.heap.size w X)=>zi5 ⟨D,[]⟩ ⟨num,⟨#[]⟩,⟨#[]⟩,es,[]⟩ _ (.slice Aq 0 cq) Ae none ce 0 i X (he.below hX) (z45.below hR hX) (by show D.length≤100000;omega) (z47.below hE hX) hi (by show es.length≤100000;omega) hsz)
 have HMV:=hd_ (fun(x:Edt) X (hX:Below w.heap.size w X)=>zia es num ⟨#[]⟩ ⟨#[]⟩ Ae none 0 ce 0 x X (z47.below hE hX) (by omega))
 clear he hR hE hsz;go_enter func86,ntmps86;go_upto_region 1 with fail;generalize (w.alloc (.cells #[.slice Ar D.length cr,.slice Aq 0 cq] 26)).alloc (.cells #[.int .i64 num,.string ⟨#[]⟩,.string ⟨#[]⟩,.slice Ae es.length ce,.slice none 0 0] 95)=W1 at hb0 hC hD ⊢;have HA:=hd_ hb0;have HC:=hd_ hC;have HD:=hd_ hD;have HX:Hid (∀ X,Below W1.heap.size W1 X→(X.cell? ⟨w.heap.size,0,none⟩=some (.slice Ar D.length cr)∧X.cell? ⟨w.heap.size,1,none⟩=some (.slice Aq 0 cq))∧X.cell? ⟨w.heap.size+1,0,none⟩=some (.int .i64 num)∧X.cell? ⟨w.heap.size+1,1,none⟩=some (.string ⟨#[]⟩)∧X.cell? ⟨w.heap.size+1,2,none⟩=some (.string ⟨#[]⟩)∧X.cell? ⟨w.heap.size+1,3,none⟩=some (.slice Ae es.length ce)∧X.cell? ⟨w.heap.size+1,4,none⟩=some (.slice none 0 0)):=hd_ fun X hX=>by
  have h1:=HD.out.below hX HD.out.lt;have h2:=HC.out.below hX HC.out.lt;exact⟨⟨h1.cell 0,h1.cell 1⟩,h2.cell 0,h2.cell 1,h2.cell 2,h2.cell 3,h2.cell 4⟩
 have HRT:Hid (∀(n:Int) X,Below W1.heap.size W1 X→zi4 w (.returned (.int .i64 n)) X):=hd_ fun n X hX=>⟨⟨n,rfl⟩,z0r HA.out hX⟩;clear hb0 hC hD;obtain⟨⟨d0,d1⟩,k0,k1,k2,k3,k4⟩:=HX.out W1 (Below.refl _ _);by_cases h0:es.length=0
 ·have q0:((es.length:Int) == 0)=true:=by simpa using h0
  clear h0;go_wp2_with fail;go_ret;exact HRT.out _ _ (Below.refl _ _)
 have q0:((es.length:Int) == 0)=false:=by simpa using h0
 have q64:decide ((64:Int)<(es.length:Int))=false:=by simp;omega
 by_cases h1:num≤0
 ·have q1:decide (num≤0)=true:=by simpa using h1
  clear h1 h0;go_wp2_with fail;go_ret;exact HRT.out _ _ (Below.refl _ _)
 have q1:decide (num≤0)=false:=by simpa using h1
 by_cases h2:1073741824<num
 ·have q2:decide (1073741824<num)=true:=by simpa using h2
  clear h2 h1 h0;go_wp2_with fail;go_ret;exact HRT.out _ _ (Below.refl _ _)
 have q2:decide (1073741824<num)=false:=by simpa using h2
 clear h2 h1 h0;go_wp2_with fail;clear d0 d1 k0 k1 k2 k3 k4 q0 q64 q1 q2;go_loopw [39] (fun i wr=>∃ k:Nat,i=.int .i64 k∧k≤D.length∧Hid (Below W1.heap.size W1 wr)) (fun i _=>D.length - (intOf i).toNat)
 case atStart=>exact⟨0,rfl,Nat.zero_le _,hd_ (Below.refl _ _)⟩
 case round =>
  obtain⟨k,rfl,hk,HI⟩:=hrel;by_cases hlt:k<D.length
  ·obtain⟨ad,rfl,hab,x0,x1,x2,x3,x4,x5,x6,x7,x8,x9,x10,x11⟩:=(HRV.out wr (z0r HA.out HI.out)).at_ hlt;generalize D[k]=r at x0 x1 x2 x3 x4 x5 x6 x7 x8 x9 x10 x11;have hX:Below wr.heap.size wr (wr.alloc (.cells #[.string r.path,.int .i64 r.num,.int .i64 r.chg,.int .i64 r.act,.int .i64 r.ty.base,.bool r.ty.k,.bool r.ty.l,.bool r.ty.x,.int .u64 r.sum,.int .i64 r.size,.string r.frm,.int .i64 r.fnum] 66)):=(Below.refl _ _).alloc (Nat.le_refl _) _;have hN:=z0l wr [.string r.path,.int .i64 r.num,.int .i64 r.chg,.int .i64 r.act,.int .i64 r.ty.base,.bool r.ty.k,.bool r.ty.l,.bool r.ty.x,.int .u64 r.sum,.int .i64 r.size,.string r.frm,.int .i64 r.fnum] 66;have HB:=hd_ (z0r HI.out hX);have HLT:=hd_ hlt;clear hX hab hlt;go_upto_region 8 with fail;clear x0 x1 x2 x3 x4 x5 x6 x7 x8 x9 x10 x11;generalize wr.alloc (.cells #[.string r.path,.int .i64 r.num,.int .i64 r.chg,.int .i64 r.act,.int .i64 r.ty.base,.bool r.ty.k,.bool r.ty.l,.bool r.ty.x,.int .u64 r.sum,.int .i64 r.size,.string r.frm,.int .i64 r.fnum] 66)=W5 at hN HB ⊢;generalize wr.heap.size=g6 at hN ⊢;have y2:W5.cell? ⟨g6,2,none⟩=some (.int .i64 r.chg):=hN.cell 2;obtain⟨-,k0,-⟩:=HX.out W5 HB.out;obtain⟨b,q⟩:∃ b,decide (num≤r.chg)=b:=⟨_,rfl⟩;clear hN;cases b with
   | true =>
    go_wp2_with fail;go_ret;exact HRT.out _ _ HB.out
   | false =>
    go_wp2_with fail;go_roundw
    case rel=>exact⟨k+1,by go_num,by have:=HLT.out;omega,HB⟩
    case measure=>have:=HLT.out;simp [intOf];omega
  ·have hke:k=D.length:=by omega
   subst hke;have HB1:=hd_ HI.out;have hge:¬((D.length:Int)<(D.length:Int)):=by omega
   obtain⟨-,k0,k1,k2,k3,k4⟩:=HX.out wr HI.out;clear HI;go_wp2_with fail;clear k0 k1 k2 k3 k4;go_loopw [52] (fun i wr=>∃ k:Nat,i=.int .i64 k∧k≤es.length∧Hid (Below W1.heap.size W1 wr)) (fun i _=>es.length - (intOf i).toNat)
   case atStart=>exact⟨0,rfl,Nat.zero_le _,HB1⟩
   case round =>
    obtain⟨k,rfl,hk,HI⟩:=hrel;by_cases hlt:k<es.length
    ·have HEC:=hd_ (HED.out k hlt wr (z0r HA.out HI.out));obtain⟨⟨d0,d1⟩,k0,k1,k2,k3,k4⟩:=HX.out wr HI.out;have HLT:=hd_ hlt;clear hlt;go_wp2_with fail;refine HEC.out.mono ?_;rintro e w5 ⟨⟨n,rfl⟩,hb⟩;dsimp only;have HB:=hd_ (z0r HI.out hb);obtain⟨b,q⟩:∃ b,(n != 0)=b:=⟨_,rfl⟩;clear hb HEC d0 d1 k0 k1 k2 k3 k4;cases b with
     | true =>
      go_wp2_with fail;go_ret;exact HRT.out _ _ HB.out
     | false =>
      go_wp2_with fail;go_roundw
      case rel=>exact⟨k+1,by go_num,by have:=HLT.out;omega,HB⟩
      case measure=>have:=HLT.out;simp [intOf];omega
    ·have hke:k=es.length:=by omega
     subst hke;have HB2:=hd_ HI.out;have hge:¬((es.length:Int)<(es.length:Int)):=by omega
     obtain⟨-,k0,k1,k2,k3,k4⟩:=HX.out wr HI.out;clear HI;go_wp2_with fail;clear k0 k1 k2 k3 k4;go_loopw [66] (fun i wr=>∃ k:Nat,i=.int .i64 k∧k≤es.length∧Hid (Below W1.heap.size W1 wr)) (fun i _=>es.length - (intOf i).toNat)
     case atStart=>exact⟨0,rfl,Nat.zero_le _,HB2⟩
     case round =>
      obtain⟨k,rfl,hk,HI⟩:=hrel;by_cases hlt:k<es.length
      ·obtain⟨ad,rfl,hab,x0,x1,x2,x3,x4,x5,x6,x7,x8,x9,x10,x11⟩:=(HEV.out wr (z0r HA.out HI.out)).at_ hlt;generalize es[k]=x at x0 x1 x2 x3 x4 x5 x6 x7 x8 x9 x10 x11;have hX:Below wr.heap.size wr (wr.alloc (.cells #[.string x.path,.int .i64 x.act,.int .i64 x.ty.base,.bool x.ty.k,.bool x.ty.l,.bool x.ty.x,.int .u64 x.sum,.int .i64 x.size,.int .i64 x.base,.string x.frm,.int .i64 x.fnum,.int .i64 x.fence] 90)):=(Below.refl _ _).alloc (Nat.le_refl _) _;have hN:=z0l wr [.string x.path,.int .i64 x.act,.int .i64 x.ty.base,.bool x.ty.k,.bool x.ty.l,.bool x.ty.x,.int .u64 x.sum,.int .i64 x.size,.int .i64 x.base,.string x.frm,.int .i64 x.fnum,.int .i64 x.fence] 90;have HB:=hd_ (z0r HI.out hX);have HLT:=hd_ hlt;clear hX hab hlt;go_upto_region 21 with fail;clear x0 x1 x2 x3 x4 x5 x6 x7 x8 x9 x10 x11;generalize wr.alloc (.cells #[.string x.path,.int .i64 x.act,.int .i64 x.ty.base,.bool x.ty.k,.bool x.ty.l,.bool x.ty.x,.int .u64 x.sum,.int .i64 x.size,.int .i64 x.base,.string x.frm,.int .i64 x.fnum,.int .i64 x.fence] 90)=W5 at hN HB ⊢;generalize wr.heap.size=g10 at hN ⊢;obtain⟨y0,y1,y2,y3,y4,y5,y6,y7,y8,y9,y10,y11⟩:=z7z hN;obtain⟨-,k0,k1,k2,k3,k4⟩:=HX.out W5 HB.out;have HMC:=hd_ (HMV.out x W5 (z0r HA.out HB.out));generalize zi7 es x=b at HMC;clear hN;cases b
       all_goals
        go_wp2_with fail;refine HMC.out.mono ?_;rintro e w6 ⟨rfl,hb⟩;dsimp only;have HB6:=hd_ (z0r HB.out hb);clear hb y0 y1 y2 y3 y4 y5 y6 y7 y8 y9 y10 y11 k0 k1 k2 k3 k4 HMC
       ·go_wp2_with fail;go_ret;exact HRT.out _ _ HB6.out
       ·go_wp2_with fail;go_roundw
        case rel=>exact⟨k+1,by go_num,by have:=HLT.out;omega,HB6⟩
        case measure=>have:=HLT.out;simp [intOf];omega
      ·have hke:k=es.length:=by omega
       subst hke;have HB3:=hd_ HI.out;have hge:¬((es.length:Int)<(es.length:Int)):=by omega
       obtain⟨-,k0,k1,k2,k3,k4⟩:=HX.out wr HI.out;clear HI;go_wp2_with fail;clear k0 k1 k2 k3 k4;go_loopw [78] (fun i wr=>i=.int .i64 0∧Hid (Below W1.heap.size W1 wr)) (fun i _=>0)
       case atStart=>exact⟨rfl,HB3⟩
       case round =>
        obtain⟨rfl,HI⟩:=hrel;obtain⟨⟨d0,d1⟩,k0,k1,k2,k3,k4⟩:=HX.out wr HI.out;obtain⟨b,q⟩:∃ b,decide ((512:Int)<(D.length:Int)+(es.length:Int))=b:=⟨_,rfl⟩;have hwz:IntKind.i64.wrap ((D.length:Int)+(es.length:Int))=(D.length:Int)+(es.length:Int):=by rw[IntKind.wrap_i64];omega
        cases b
        all_goals
         go_wp2_with fail;go_ret;exact HRT.out _ _ HI.out
section
variable {u0 u1 u2 u3 u4 u5 u6 u7 u8 u9 gn gt gu gx gy gz gA gC gD gE gF gG gH gI gJ gK gL gM gN gO gP gQ gR gT gV gW gX gY gZ i6 i7 i8 ia ib ic ie ig ii ij ik : Value}
theorem zic (n:Int)(es:List Edt)(k:Nat)(h:k<es.length):((es.take (k+1)).map (zhy n)).flatMap Rev.cells=((es.take k).map (zhy n)).flatMap Rev.cells++(zhy n es[k]).cells:=by
 rw[List.take_succ_eq_append_getElem h,List.map_append,List.flatMap_append,List.map_cons,List.map_nil,List.flatMap_cons,List.flatMap_nil,List.append_nil]
theorem zid (l:List Rev):∀ u∈l.flatMap Rev.cells,u.oneCell'=true:=by
 intro u hu;obtain⟨x,-,hx⟩:=List.mem_flatMap.1 hu;simp only[Rev.cells,List.mem_cons,List.not_mem_nil,or_false] at hx
 rcases hx with rfl | rfl | rfl | rfl | rfl | rfl | rfl | rfl | rfl | rfl | rfl | rfl <;> rfl
theorem zie {w w':World}{row:Option Nat}(h:w.grownBy w' row)(hr:row=none):Below w.heap.size w w':=⟨h.os,h.tape,h.output,h.size,fun k hk=>h.block k hk (by rw[hr];exact fun e=>by cases e)⟩
theorem zif (A:Option Addr)(c:Nat)(w:World):Calls prog 88 #[.slice A 0 c] w fun e w'=>e=.returned (.slice A 0 c)∧Below w.heap.size w w':=by
 go_enter func88,ntmps88;go_wp2_with fail;go_loopw [7] (fun i wr=>i=.int .i64 0∧wr=w) (fun i _=>0)
 case atStart=>exact⟨rfl,rfl⟩
 case round =>
  obtain⟨rfl,rfl⟩:=hrel;go_wp2_with fail;go_ret;exact⟨rfl,Below.refl _ _⟩
structure WaR (V wx:World)(g7:Nat)(v1 v2:Value)(n:Nat)(xs:List Value):Prop where
 bel:Below V.heap.size V wx
 le:V.heap.size≤g7
 box:Blk wx g7 26 [v1,v2]
 one:wx.ownsRow V.heap.size 66 12 v1 n xs
 ne1:v1.ownBlock≠some g7
theorem WaR.push {V wr X w5:World}{g7:Nat}{v1 v2 v3:Value}{n n':Nat}{xs xs':List Value}(h:WaR V wr g7 v1 v2 n xs)(hX:Below wr.heap.size wr X)(ho:w5.ownsRow V.heap.size 66 12 v3 n' xs')(hg:X.grownBy w5 v1.ownBlock)(hw:v3.ownBlock=v1.ownBlock∨v3.ownBlock=some X.heap.size):
  WaR V (w5.setCell ⟨g7,0,none⟩ v3) g7 v3 v2 n' xs':=by
 have l1:=h.one.lt;have lb:=h.box.lt;have hs:=hX.size;have n3:v3.ownBlock≠some g7:=fun e=>by
  rcases hw with hw | hw
  ·exact h.ne1 (hw ▸ e)
  ·rw[hw] at e;injection e with e;omega
 have b5:Below V.heap.size V w5:=(z0r h.bel hX).grown hg (by have:=h.bel.size;omega) (fun k e=>(l1 k e).1)
 exact⟨b5.setCell (p:=⟨g7,0,none⟩) h.le _,h.le,((h.box.below hX lb).grown hg (fun e=>h.ne1 e.symm)).set_ 0 v3,z4r ho (p:=⟨g7,0,none⟩) n3 _,n3⟩
theorem WaR.under {V wr X:World}{g7:Nat}{v1 v2:Value}{n:Nat}{xs:List Value}(h:WaR V wr g7 v1 v2 n xs)(hX:Below wr.heap.size wr X):WaR V X g7 v1 v2 n xs:=
 ⟨z0r h.bel hX,h.le,h.box.below hX h.box.lt,z0n h.one hX,h.ne1⟩
theorem waR9 (ops:Array Oper)(hops:Tryz.f58.body.bind (zci 9)=some ops)(Q:Exit→Act→World→Prop)(g3 g7 g9 n:Nat)(num:Int)(cl tx:ByteArray)(Ae Ac:Option Addr)(ne nc ce cc:Nat)(x:Edt)(r:Rev)(v1:Value)(xs:List Value)(V V1:World)
  (hR:WaR V V1 g7 v1 (.slice none 0 0) n xs) (hB:Blk V1 g9 90 [.string x.path,.int .i64 x.act,.int .i64 x.ty.base,.bool x.ty.k,.bool x.ty.l,.bool x.ty.x,.int .u64 x.sum,.int .i64 x.size,.int .i64 x.base,.string x.frm,.int .i64 x.fnum,.int .i64 x.fence]) (hC:Blk V1 g3 95 [.int .i64 num,.string cl,.string tx,.slice Ae ne ce,.slice Ac nc cc]) (hn:n≤100000)
  (hrev:∀ X,Below V1.heap.size V1 X→Calls prog 87 #[.agg #[.int .i64 num,.string cl,.string tx,.slice Ae ne ce,.slice Ac nc cc],.agg #[.string x.path,.int .i64 x.act,.int .i64 x.ty.base,.bool x.ty.k,.bool x.ty.l,.bool x.ty.x,.int .u64 x.sum,.int .i64 x.size,.int .i64 x.base,.string x.frm,.int .i64 x.fnum,.int .i64 x.fence]] X fun e w'=>e=.returned (.agg #[.string r.path,.int .i64 r.num,.int .i64 r.chg,.int .i64 r.act,.int .i64 r.ty.base,.bool r.ty.k,.bool r.ty.l,.bool r.ty.x,.int .u64 r.sum,.int .i64 r.size,.string r.frm,.int .i64 r.fnum])∧Below X.heap.size X w')
  (hQ:∀(eH eI eJ eK eL eM eN eO:Value) (v3:Value) (w':World),Hid (WaR V w' g7 v3 (.slice none 0 0) (n+1) (xs++[.string r.path,.int .i64 r.num,.int .i64 r.chg,.int .i64 r.act,.int .i64 r.ty.base,.bool r.ty.k,.bool r.ty.l,.bool r.ty.x,.int .u64 r.sum,.int .i64 r.size,.string r.frm,.int .i64 r.fnum]))→Q .normal ⟨#[u0,u1,u2,.pointer (some ⟨g3,0,none⟩),u4,u5,u6,.pointer (some ⟨g7,0,none⟩),u8,.pointer (some ⟨g9,0,none⟩),gn,gt,gu,gx,gy,gz,gA,gC,gD,gE,gF,gG,gH,gI,gJ,gK,gL,gM,gN,gO,eH,eI,eJ,eK,eL,eM,eN,eO,gZ,i6,i7,i8,ia,ib,ic,ie,ig,ii,ij,ik],[]⟩ w'):
  (Code.region 9 ops true).wp prog Q ⟨#[u0,u1,u2,.pointer (some ⟨g3,0,none⟩),u4,u5,u6,.pointer (some ⟨g7,0,none⟩),u8,.pointer (some ⟨g9,0,none⟩),gn,gt,gu,gx,gy,gz,gA,gC,gD,gE,gF,gG,gH,gI,gJ,gK,gL,gM,gN,gO,gP,gQ,gR,gT,gV,gW,gX,gY,gZ,i6,i7,i8,ia,ib,ic,ie,ig,ii,ij,ik],[]⟩ V1:=by
 simp only[Tryz.f58,Option.bind_some,zci] at hops
 simp at hops
 subst hops;obtain⟨A1,c1,hv1⟩:=z0o hR.one;subst hv1;have HQ:=hd_ hQ;have HR:=hd_ hR;have HB:=hd_ hB;have HC:=hd_ hC;have HRV2:=hd_ hrev;clear hQ hR hB hrev hC;have f0:V1.cell? ⟨g7,0,none⟩=some (.slice A1 n c1):=HR.out.box.cell 0;obtain⟨c0,c1',c2,c3,c4,c5,c6,c7,c8,c9,c10,c11⟩:=z7z HB.out;obtain⟨k0,k1,k2,k3,k4⟩:=zhx HC.out;refine wp_region_noPanic ?_;go_region_law (first
  | (refine zce rfl rfl zgt (z0n (z0n HR.out.one hS5) ((Below.refl _ _).alloc (Nat.le_refl _) _)) (by simp [Act.eval,Act.put]) (z0i w5 [.string r.path,.int .i64 r.num,.int .i64 r.chg,.int .i64 r.act,.int .i64 r.ty.base,.bool r.ty.k,.bool r.ty.l,.bool r.ty.x,.int .u64 r.sum,.int .i64 r.size,.string r.frm,.int .i64 r.fnum] _ 12 1 rfl (by decide) _ rfl) (by simp [Act.eval,Act.put]) (by simp [Value.oneCell']) (by omega) (by unfold maxLen;omega) (by have:=hS5.size;have:=HR.out.bel.size;simp;omega) ?_;intro A6 c6' w6 hO6 hG6 hw6;have hbx:=(HR.out.box.below (z0r hS5 ((Below.refl _ _).alloc (Nat.le_refl _) _)) HR.out.box.lt).grown hG6 (fun e=>HR.out.ne1 e.symm);obtain⟨b0,b1,g0,g1⟩:=box2 hbx)
  | (go_simp;go_at_call 87;refine (HRV2.out _ (Below.refl _ _).drew).mono ?_;rintro e w5 ⟨rfl,hX5⟩;have hS5:Below V1.heap.size V1 w5:=(Below.refl _ _).drew.trans hX5;have f5:w5.cell? ⟨g7,0,none⟩=some (.slice A1 n c1):=(HR.out.box.below hS5 HR.out.box.lt).cell 0;have f6:(w5.alloc (.cells #[.string r.path,.int .i64 r.num,.int .i64 r.chg,.int .i64 r.act,.int .i64 r.ty.base,.bool r.ty.k,.bool r.ty.l,.bool r.ty.x,.int .u64 r.sum,.int .i64 r.size,.string r.frm,.int .i64 r.fnum] 66)).cell? ⟨g7,0,none⟩=some (.slice A1 n c1):=(HR.out.box.below (hS5.alloc hS5.size _) HR.out.box.lt).cell 0))
 all_goals exact NoPanic.normal (HQ.out _ _ _ _ _ _ _ _ _ _ (HR.out.push (z0r hS5 ((Below.refl _ _).alloc (Nat.le_refl _) _)) hO6 hG6 hw6))
theorem waR11 (ops:Array Oper)(hops:Tryz.f58.body.bind (zci 11)=some ops)(Q:Exit→Act→World→Prop)(g2 g3 g7 n:Nat)(num:Int)(cl tx:ByteArray)(Aq Ae:Option Addr)(ne cq ce:Nat)(v0 v1:Value)(xs:List Value)(V V1:World)
  (hR:WaR V V1 g7 v1 (.slice none 0 0) n xs) (hD:Blk V1 g2 26 [v0,.slice Aq 0 cq]) (hC:Blk V1 g3 95 [.int .i64 num,.string cl,.string tx,.slice Ae ne ce,.slice none 0 0]) (hQd:z48 V1 (.slice Aq 0 cq) [])
  (hQ:∀(eQ eR eS eT eU eV eW eX eY eZ:Value) (A2:Option Addr) (c2:Nat) (w':World),Hid (Below V.heap.size V w'∧Blk w' g7 26 [v1,.slice A2 0 c2]∧w'.ownsRow V.heap.size 66 12 v1 n xs∧z48 w' (.slice A2 0 c2) [])→Q .normal ⟨#[u0,u1,.pointer (some ⟨g2,0,none⟩),.pointer (some ⟨g3,0,none⟩),u4,u5,u6,.pointer (some ⟨g7,0,none⟩),u8,u9,gn,gt,gu,gx,gy,gz,gA,gC,gD,gE,gF,gG,gH,gI,gJ,gK,gL,gM,gN,gO,gP,gQ,gR,gT,gV,gW,gX,gY,gZ,eQ,eR,eS,eT,eU,eV,eW,eX,eY,eZ,ik],[]⟩ w'):
  (Code.region 11 ops true).wp prog Q ⟨#[u0,u1,.pointer (some ⟨g2,0,none⟩),.pointer (some ⟨g3,0,none⟩),u4,u5,u6,.pointer (some ⟨g7,0,none⟩),u8,u9,gn,gt,gu,gx,gy,gz,gA,gC,gD,gE,gF,gG,gH,gI,gJ,gK,gL,gM,gN,gO,gP,gQ,gR,gT,gV,gW,gX,gY,gZ,i6,i7,i8,ia,ib,ic,ie,ig,ii,ij,ik],[]⟩ V1:=by
 simp only[Tryz.f58,Option.bind_some,zci] at hops
 simp at hops
 subst hops;have HQ:=hd_ hQ;have HR:=hd_ hR;have HQD:=hd_ hQd;have HFF:Hid (∀ w',Below V1.heap.size V1 w'→w'.cell? ⟨g2,1,none⟩=some (.slice Aq 0 cq)∧w'.cell? ⟨g3,4,none⟩=some (.slice none 0 0)∧w'.cell? ⟨g7,1,none⟩=some (.slice none 0 0)∧w'.frozen? ⟨g7,1,none⟩=false):=hd_ fun w' hb=>by
  obtain⟨-,a,-,-⟩:=box2 (hD.below hb hD.lt);obtain⟨-,-,-,-,b⟩:=zhx (hC.below hb hC.lt);obtain⟨-,c,-,d⟩:=box2 (hR.box.below hb hR.box.lt);exact⟨a,b,c,d⟩
 have HEND:Hid (∀(A6:Option Addr) (c6:Nat) (w6 w7:World),Below V1.heap.size V1 w7→w6.ownsRow V1.heap.size 145 6 (.slice A6 0 c6) 0 []→Below w6.heap.size w6 w7→Below V.heap.size V (w7.setCell ⟨g7,1,none⟩ (.slice A6 0 c6))∧Blk (w7.setCell ⟨g7,1,none⟩ (.slice A6 0 c6)) g7 26 [v1,.slice A6 0 c6]∧(w7.setCell ⟨g7,1,none⟩ (.slice A6 0 c6)).ownsRow V.heap.size 66 12 v1 n xs∧z48 (w7.setCell ⟨g7,1,none⟩ (.slice A6 0 c6)) (.slice A6 0 c6) []):=hd_ fun A6 c6 w6 w7 h7 ho h67=>by
  refine⟨(z0r HR.out.bel h7).setCell (p:=⟨g7,1,none⟩) HR.out.le _,(HR.out.box.below h7 HR.out.box.lt).set_ 1 _,z4r (z0n HR.out.one h7) (p:=⟨g7,1,none⟩) HR.out.ne1 _,?_⟩;obtain⟨A,c,e,hc,hm,hl,h0,-⟩:=Row.of_own ho;exact⟨A,c,e,hc,hm,hl,h0,fun h=>absurd h (by decide)⟩
 clear hQ hR hD hC hQd;obtain⟨f0,f1,f2,f3⟩:=HFF.out V1 (Below.refl _ _);refine wp_region_noPanic ?_;go_region_law (first
  | (refine zce (base:=V1.heap.size) (n:=0) (m:=0) (xs:=[]) (news:=[]) rfl rfl zgu (World.ownsRow_nil _ _ _ _) (by simp [Act.eval,Act.put];done) (HQD.out.below (Below.refl _ _).drew) (by simp [Act.eval,Act.put];done) (fun u h=>by cases h) (by omega) (by unfold maxLen;omega) (Below.size (B:=V1.heap.size) (w:=V1) (Below.refl _ _).drew) ?_;intro A5 c5 w5 hO5 hG5 hw5;have hX5:=zie hG5 rfl;have hS5:Below V1.heap.size V1 w5:=z0r (Below.refl _ _).drew hX5;obtain⟨f4,f5,f6,f7⟩:=HFF.out w5 hS5)
  | (refine zce (m:=0) (news:=[]) rfl rfl zgu hO5 (by simp [Act.eval,Act.put];done) (z48.nil_ w5) (by simp [Act.eval,Act.put];done) (fun u h=>by cases h) (by omega) (by unfold maxLen;omega) hS5.size ?_;intro A6 c6 w6 hO6 hG6 hw6;have hS6:Below V1.heap.size V1 w6:=hS5.grown hG6 hS5.size (fun k e=>(hO5.lt k e).1);obtain⟨f8,f9,f10,f11⟩:=HFF.out w6 hS6)
  | (go_simp;go_at_call 88;refine (zif A6 c6 w6).mono ?_;rintro e w7 ⟨rfl,hG7⟩;have hS7:Below V1.heap.size V1 w7:=z0r hS6 hG7;obtain⟨f12,f13,f14,f15⟩:=HFF.out w7 hS7))
 all_goals exact NoPanic.normal (HQ.out _ _ _ _ _ _ _ _ _ _ _ _ _ (HEND.out A6 c6 w6 w7 hS7 hO6 hG7))
def zig (w:World)(D:List Rev)(es:List Edt)(num:Int)(e:Ending)(w':World):Prop:=
 Below w.heap.size w w'∧((∃ n:Int,n≠0∧e=.returned (.tuple #[.agg #[.slice none 0 0,.slice none 0 0],.int .i64 n])) ∨
  ∃(A A2:Option Addr) (c c2:Nat),e=.returned (.tuple #[.agg #[.slice A (D.length+es.length) c,.slice A2 0 c2],.int .i64 0])∧z45 w' (.slice A (D.length+es.length) c) (D++es.map (zhy num))∧(∀ x,(Value.slice A (D.length+es.length) c).ownBlock=some x→w.heap.size≤x∧x<w'.heap.size)∧z48 w' (.slice A2 0 c2) [])
def WaI (V wr:World)(g7:Nat)(D:List Rev)(es:List Edt)(num:Int)(k:Nat):Prop:=∃ v1,WaR V wr g7 v1 (.slice none 0 0) (D.length+k) (D.flatMap Rev.cells++((es.take k).map (zhy num)).flatMap Rev.cells)
theorem zih (D:List Rev)(es:List Edt)(num:Int)(Ar Aq Ae:Option Addr)(cr cq ce:Nat)(w:World)(he:Env w)(hR:z45 w (.slice Ar D.length cr) D)(hl:D.length≤1000)(hE:z47 w (.slice Ae es.length ce) es)(hel:es.length≤6)
  (hsz:∀ e∈es,e.path.size≤2000000∧0≤e.base∧e.base≤1000000) (hQ:z48 w (.slice Aq 0 cq) []):
  Calls prog 58 #[.agg #[.slice Ar D.length cr,.slice Aq 0 cq],.agg #[.int .i64 num,.string ⟨#[]⟩,.string ⟨#[]⟩,.slice Ae es.length ce,.slice none 0 0]] w (zig w D es num):=by
 have HEN:=hd_ he;have HR:=hd_ hR;have HQ:=hd_ hQ;have HE:=hd_ hE;have HSZ:=hd_ hsz;obtain⟨W1,hW1⟩:∃ W,W=((w.alloc (.cells #[.slice Ar D.length cr,.slice Aq 0 cq] 26)).alloc (.cells #[.int .i64 num,.string ⟨#[]⟩,.string ⟨#[]⟩,.slice Ae es.length ce,.slice none 0 0] 95)).alloc (.cells #[.slice none 0 0,.slice none 0 0] 26):=⟨_,rfl⟩;have hb1:Below w.heap.size w W1:=by rw[hW1];exact (((Below.refl _ _).alloc (Nat.le_refl _) _).alloc (by simp) _).alloc (by simp;omega) _
 have hD1:Blk W1 w.heap.size 26 [.slice Ar D.length cr,.slice Aq 0 cq]:=by rw[hW1];exact ((z0l w _ _).alloc _).alloc _
 have hC1:Blk W1 (w.heap.size+1) 95 [.int .i64 num,.string ⟨#[]⟩,.string ⟨#[]⟩,.slice Ae es.length ce,.slice none 0 0]:=by
  rw[hW1];have:=z0l (w.alloc (.cells #[.slice Ar D.length cr,.slice Aq 0 cq] 26)) [.int .i64 num,.string ⟨#[]⟩,.string ⟨#[]⟩,.slice Ae es.length ce,.slice none 0 0] 95;simp only[World.size_alloc] at this
  exact this.alloc _
 have hZ1:Blk W1 (w.heap.size+1+1) 26 [.slice none 0 0,.slice none 0 0]:=by
  rw[hW1];have:=z0l ((w.alloc (.cells #[.slice Ar D.length cr,.slice Aq 0 cq] 26)).alloc (.cells #[.int .i64 num,.string ⟨#[]⟩,.string ⟨#[]⟩,.slice Ae es.length ce,.slice none 0 0] 95)) [.slice none 0 0,.slice none 0 0] 26;simp only[World.size_alloc] at this
  exact this
 have HW1:=hd_ hW1;have Hb1:=hd_ hb1;have HD1:=hd_ hD1;have HC1:=hd_ hC1;have HZ1:=hd_ hZ1;have HCK:=hd_ (zib D es num Ar Aq Ae cr cq ce W1 (he.below hb1) (z45.below hR hb1) hl (z47.below hE hb1) hel hsz);clear hW1 hb1 hD1 hC1 hZ1 he hR hE hsz hQ;go_enter func58,ntmps58;go_upto_region 1 with fail;rw[← HW1.out];obtain⟨d0,d1,-,-⟩:=box2 HD1.out;obtain⟨k0,k1,k2,k3,k4⟩:=zhx HC1.out;go_wp2_with fail;refine HCK.out.mono ?_;rintro e w2 ⟨⟨e0,rfl⟩,hb2⟩;dsimp only;have HB2:=hd_ hb2;clear hb2 d0 d1 k0 k1 k2 k3 k4 HCK;have HF:=hd_ (fun(W:World) (n:Int) (hb:Below w.heap.size w W) (hn:n≠0)=>(⟨hb,.inl ⟨n,hn,rfl⟩⟩:zig w D es num (.returned (.tuple #[.agg #[.slice none 0 0,.slice none 0 0],.int .i64 n])) W));by_cases h0:e0=0
 case neg =>
  have q:(e0 != 0)=true:=by simpa using h0
  have HN:=hd_ h0;clear h0;have hR4:=HZ1.out.below HB2.out HZ1.out.lt;obtain⟨r0,r1,f0,f1⟩:=box2 hR4;have HBX:=hd_ (z0r Hb1.out HB2.out);go_wp2_with fail;have hR5:=(hR4.set_ 0 (.slice none 0 0)).set_ 1 (.slice none 0 0);have hB5:=(HBX.out.setCell (p:=⟨w.heap.size+1+1,0,none⟩) (by simp;omega) (.slice none 0 0)).setCell (p:=⟨w.heap.size+1+1,1,none⟩) (by simp;omega) (.slice none 0 0)
  clear r0 r1 f0 f1 hR4;generalize (w2.setCell ⟨w.heap.size+1+1,0,none⟩ (.slice none 0 0)).setCell ⟨w.heap.size+1+1,1,none⟩ (.slice none 0 0)=W5 at hR5 hB5 ⊢;obtain⟨r0,r1,-,-⟩:=box2 hR5;refine bodyPost_ret (v:=.tuple #[.agg #[.slice none 0 0,.slice none 0 0],.int .i64 e0]) (by simp [results,results58,go_sem,r0,r1]) rfl (HF.out W5 e0 hB5 HN.out)
 subst h0;clear HF;have hO7:=z0l w2 [.slice none 0 0,.slice none 0 0] 26;have hA3:Below w2.heap.size w2 (w2.alloc (.cells #[.slice none 0 0,.slice none 0 0] 26)):=(Below.refl _ _).alloc (Nat.le_refl _) _;go_upto_region 5 with fail;generalize w2.alloc (.cells #[.slice none 0 0,.slice none 0 0] 26)=w3 at hO7 hA3 ⊢;have hW3:=z0r HB2.out hA3;obtain⟨d0,d1,-,-⟩:=box2 (HD1.out.below hW3 HD1.out.lt);obtain⟨p0,p1,p2,p3⟩:=box2 hO7;have hRW:=z45.below HR.out (z0r Hb1.out hW3);have HO7:=hd_ hO7;have HA3:=hd_ hA3;have HRW:=hd_ hRW;clear hO7 hA3 hW3 hRW;go_upto_region 6 with (at_builtin;refine z0j (base:=w3.heap.size) (n:=0) (xs:=[]) rfl rfl zgt (World.ownsRow_nil _ _ _ _) rfl HRW.out rfl (zid _) (by omega) (by unfold maxLen;omega) (Nat.le_refl _) ?_;intro A5 c5 w5 hO5 hG5 hw5;have hX5:=zie hG5 rfl;obtain⟨t0,t1,t2,t3⟩:=box2 (HO7.out.below hX5 HO7.out.lt))
 rw[Nat.zero_add,List.nil_append] at hO5;have hAP:WaI w2 (w5.setCell ⟨w2.heap.size,0,none⟩ (.slice A5 D.length c5)) w2.heap.size D es num 0:=by
  have hlt:=HO7.out.lt;have n5:(Value.slice A5 D.length c5).ownBlock≠some w2.heap.size:=fun e=>by have:=(hO5.lt _ e).1;omega
  refine⟨.slice A5 D.length c5,(z0r HA3.out hX5).setCell (p:=⟨w2.heap.size,0,none⟩) (Nat.le_refl _) _,Nat.le_refl _,(HO7.out.below hX5 hlt).set_ 0 _,?_,n5⟩;rw[List.take_zero,List.map_nil,List.flatMap_nil,List.append_nil];exact z4p (z4r hO5 (p:=⟨w2.heap.size,0,none⟩) n5 _) (Nat.le_of_lt hlt)
 generalize w5.setCell ⟨w2.heap.size,0,none⟩ (.slice A5 D.length c5)=w6 at hAP ⊢;have HAP:=hd_ hAP;have HW6:Hid (Below W1.heap.size W1 w6):=hd_ (by obtain⟨v1,h⟩:=hAP;exact z0r HB2.out h.bel)
 clear t0 t1 t2 t3 d0 d1 p0 p1 p2 p3 hO5 hG5 hw5 hX5 hAP;obtain⟨k0,k1,k2,k3,k4⟩:=zhx (HC1.out.below HW6.out HC1.out.lt);have HMD:=hd_ (fun x (hx:x∈es) X=>zhz num ⟨#[]⟩ ⟨#[]⟩ Ae none es.length 0 ce 0 x X (HSZ.out x hx).2);go_upto_block 0 with fail
 clear k0 k1 k2 k3 k4;go_cut [] (fun wx=>Hid (WaI w2 wx w2.heap.size D es num es.length))
 case first =>
  go_wp2_with fail;go_loopw [26] (fun s wr=>∃ k:Nat,s=.int .i64 k∧k≤es.length∧Hid (WaI w2 wr w2.heap.size D es num k)) (fun s _=>es.length - (intOf s).toNat)
  case atStart=>exact⟨0,rfl,Nat.zero_le _,HAP.out⟩
  case round =>
   obtain⟨k,rfl,hk,HI⟩:=hrel;by_cases hlt:k<es.length
   ·obtain⟨v1,hAP⟩:=HI.out;obtain⟨ad,rfl,hab,hld⟩:=z47.at_ (HE.out.below (z0r (z0r Hb1.out HB2.out) hAP.bel)) hlt;have HNX:Hid (∀ v3 w',WaR w2 w' w2.heap.size v3 (.slice none 0 0) (D.length+k+1) (D.flatMap Rev.cells++((es.take k).map (zhy num)).flatMap Rev.cells++(zhy num es[k]).cells)→WaI w2 w' w2.heap.size D es num (k+1)):=hd_ (fun v3 w' h=>⟨v3,by rw[zic _ _ _ hlt,← List.append_assoc];exact h⟩)
    have HM1:=hd_ (HMD.out es[k] (List.getElem_mem hlt));have HKB:Hid (D.length+k≤100000):=hd_ (by omega)
    generalize es[k]=x at hld HNX HM1;generalize zhy num x=r at HNX HM1;generalize D.flatMap Rev.cells++((es.take k).map (zhy num)).flatMap Rev.cells=xs at hAP HNX;obtain⟨x0,x1,x2,x3,x4,x5,x6,x7,x8,x9,x10,x11⟩:=hld;have hX:=z0l wr [.string x.path,.int .i64 x.act,.int .i64 x.ty.base,.bool x.ty.k,.bool x.ty.l,.bool x.ty.x,.int .u64 x.sum,.int .i64 x.size,.int .i64 x.base,.string x.frm,.int .i64 x.fnum,.int .i64 x.fence] 90;have hA1:Below wr.heap.size wr (wr.alloc (.cells #[.string x.path,.int .i64 x.act,.int .i64 x.ty.base,.bool x.ty.k,.bool x.ty.l,.bool x.ty.x,.int .u64 x.sum,.int .i64 x.size,.int .i64 x.base,.string x.frm,.int .i64 x.fnum,.int .i64 x.fence] 90)):=(Below.refl _ _).alloc (Nat.le_refl _) _;have HAP1:=hd_ hAP;clear hAP;go_upto_region 9 with fail;clear x0 x1 x2 x3 x4 x5 x6 x7 x8 x9 x10 x11;generalize wr.alloc (.cells #[.string x.path,.int .i64 x.act,.int .i64 x.ty.base,.bool x.ty.k,.bool x.ty.l,.bool x.ty.x,.int .u64 x.sum,.int .i64 x.size,.int .i64 x.base,.string x.frm,.int .i64 x.fnum,.int .i64 x.fence] 90)=V1 at hX hA1 ⊢;generalize wr.heap.size=g9 at hX ⊢;have HX:=hd_ hX;have HA1:=hd_ (HAP1.out.under hA1);clear hX hA1;refine waR9 _ (by kernel_rfl) _ (w.heap.size+1) w2.heap.size g9 (D.length+k) num ⟨#[]⟩ ⟨#[]⟩ (some ad) none es.length 0 ce 0 x r v1 xs w2 V1 HA1.out HX.out (HC1.out.below (z0r HB2.out HA1.out.bel) HC1.out.lt) HKB.out (fun X _=>HM1.out X) ?_
    intro eH eI eJ eK eL eM eN eO v3 w7 H7;have HR7:=hd_ (HNX.out v3 w7 H7.out);clear H7;go_wp2_with fail;go_roundw
    case rel=>exact⟨k+1,by go_num,by omega,HR7.out⟩
    case measure=>simp [intOf];omega
   ·have hke:k=es.length:=by omega
    have q:decide ((k:Int)<(es.length:Int))=false:=by simp;omega
    have q':decide (k<es.length)=false:=by simp;omega
    have HZ:Hid (WaI w2 wr w2.heap.size D es num es.length):=hd_ (by rw[← hke];exact HI.out)
    clear hke;go_wp2_with fail;go_meet
    exact HZ.out
 case rest =>
  obtain⟨v1,hAP⟩:=hcut.out;rw[List.take_length,← List.flatMap_append] at hAP;have HAP2:=hd_ hAP;have HWC:Hid (Below W1.heap.size W1 wc):=hd_ (z0r HB2.out hAP.bel);clear hAP hcut;go_upto_region 11 with fail;refine waR11 _ (by kernel_rfl) _ w.heap.size (w.heap.size+1) w2.heap.size (D.length+es.length) num ⟨#[]⟩ ⟨#[]⟩ Aq Ae es.length cq ce (.slice Ar D.length cr) v1 _ w2 wc HAP2.out (HD1.out.below HWC.out HD1.out.lt) (HC1.out.below HWC.out HC1.out.lt) (z48.below HQ.out (z0r Hb1.out HWC.out)) ?_
  intro eQ eR eS eT eU eV eW eX eY eZ A2 c2 w7 H7;obtain⟨A8,c8,hv1⟩:=z0o H7.out.2.2.1;subst hv1;have hB7:=z0r HB2.out H7.out.1;have hR4:=HZ1.out.below hB7 HZ1.out.lt;obtain⟨r0,r1,f0,f1⟩:=box2 hR4;obtain⟨p0,p1,-,-⟩:=box2 H7.out.2.1;have HB7:=hd_ (z0r Hb1.out hB7);have HLT:=hd_ HZ1.out.lt;have HSZ2:=hd_ HB2.out.size;clear hB7;go_wp2_with fail;have hR5:=(hR4.set_ 0 (Value.slice A8 (D.length+es.length) c8)).set_ 1 (Value.slice A2 0 c2);have hB5:=(HB7.out.setCell (p:=⟨w.heap.size+1+1,0,none⟩) (by simp;omega) (Value.slice A8 (D.length+es.length) c8)).setCell (p:=⟨w.heap.size+1+1,1,none⟩) (by simp;omega) (Value.slice A2 0 c2)
  have n1:(Value.slice A8 (D.length+es.length) c8).ownBlock≠some (w.heap.size+1+1):=fun e=>by have:=(H7.out.2.2.1.lt _ e).1;have:=HLT.out;have:=HSZ2.out;omega
  have k2:=z4r (z4r H7.out.2.2.1 (p:=⟨w.heap.size+1+1,0,none⟩) n1 (Value.slice A8 (D.length+es.length) c8)) (p:=⟨w.heap.size+1+1,1,none⟩) n1 (Value.slice A2 0 c2);have k1:=Row.of_own k2;have k3:=k2.lt;clear k2;have hw2:w.heap.size≤w2.heap.size:=by have:=Hb1.out.size;have:=HSZ2.out;omega
  clear r0 r1 f0 f1 hR4 p0 p1;generalize (w7.setCell ⟨w.heap.size+1+1,0,none⟩ (Value.slice A8 (D.length+es.length) c8)).setCell ⟨w.heap.size+1+1,1,none⟩ (Value.slice A2 0 c2)=W5 at hR5 hB5 k1 k3 ⊢;obtain⟨r0,r1,-,-⟩:=box2 hR5;refine bodyPost_ret (v:=.tuple #[.agg #[(Value.slice A8 (D.length+es.length) c8),(Value.slice A2 0 c2)],.int .i64 0]) (by simp [results,results58,go_sem,r0,r1]) rfl ?_
  refine⟨hB5,.inr ⟨A8,A2,c8,c2,rfl,?_,fun x hx=>⟨Nat.le_trans hw2 (k3 x hx).1,(k3 x hx).2⟩,?_⟩⟩
  ·show Row W5 12 _ (D++es.map (zhy num)).length _
   rw[List.length_append,List.length_map];exact k1
  ·obtain⟨A,c,e,hc,hm,hl,h0,-⟩:=H7.out.2.2.2;exact⟨A,c,e,hc,hm,hl,h0,fun h=>absurd h (by decide)⟩
end
theorem knGrow (w:World):Calls prog 118 #[.slice none 0 0,.int .i64 0] w fun e w'=>e=.returned (.slice none 0 0)∧w=w':=by
 go_enter func118,ntmps118;go_wp2_with fail;go_ret;exact⟨rfl,rfl⟩
theorem zii (g:Nat)(w:World)(hB:Blk w g 24 [.slice none 0 0,.slice none 0 0]):Calls prog 75 #[.slice (some ⟨g,0,none⟩) 2 2] w fun e w'=>∃ A c,e=.returned (.slice A 0 c)∧Below w.heap.size w w':=by
 have b0:w.cell? ⟨g,0,none⟩=some (.slice none 0 0):=hB.cell 0;have b1:w.cell? ⟨g,1,none⟩=some (.slice none 0 0):=hB.cell 1;have HB:=hd_ hB;have HG:=hd_ (knGrow w);clear hB;go_enter func75,ntmps75;go_wp2_with fail;refine wp_loop_rounds 3 ?_;rw[rounds_succ];go_wp2_with fail;rw[rounds_succ];go_wp2_with fail;rw[rounds_succ];go_wp2_with fail;refine HG.out.mono ?_;rintro e w1 ⟨rfl,rfl⟩;go_wp2_with fail;refine wp_loop_rounds 3 ?_;rw[rounds_succ];go_wp2_with (at_builtin;refine z0j (base:=w.heap.size) (n:=0) (xs:=[]) (m:=0) (news:=[]) rfl rfl zgu (World.ownsRow_nil _ _ _ _) rfl (z48.nil_ w) rfl (fun u h=>by cases h) (by omega) (by unfold maxLen;omega) (Nat.le_refl _) ?_;intro A' c' w2 hO2 hG2 hw2)
 have HO2:=hd_ hO2;have HB2:=hd_ (zie hG2 rfl);have b1:w2.cell? ⟨g,1,none⟩=some (.slice none 0 0):=(HB.out.below HB2.out HB.out.lt).cell 1;clear hO2 hG2 hw2 b0;rw[rounds_succ];go_wp2_with (at_builtin;refine z0j (base:=w.heap.size) (m:=0) (news:=[]) rfl rfl zgu HO2.out rfl (z48.nil_ w2) rfl (fun u h=>by cases h) (by omega) (by unfold maxLen;omega) HB2.out.size ?_;intro A3 c3 w3 hO3 hG3 hw3)
 have HB3:Hid (Below w.heap.size w w3):=hd_ (HB2.out.grown hG3 HB2.out.size (fun k e=>(HO2.out.lt k e).1));clear hO3 hG3 hw3;rw[rounds_succ];go_wp2_with fail;go_ret;exact⟨_,_,rfl,HB3.out⟩
theorem knSort (A:Option Addr)(c:Nat)(cv:Value)(w:World):Calls prog 77 #[.slice A 0 c,cv] w fun e w'=>e=.returned (.tuple #[])∧w=w':=by
 have H:=hd_ (z5w (.slice A 0 c) cv w);go_enter func77,ntmps77;go_wp2_with fail;refine H.out.mono ?_;rintro e w' ⟨rfl,rfl⟩;go_wp2_with fail;go_end0
 exact⟨rfl,rfl⟩
theorem knClone (w:World):Calls prog 74 #[.slice none 0 0] w fun e w'=>e=.returned (.slice none 0 0)∧w=w':=by
 go_enter func74,ntmps74;have heq:∀ W,(binOp .eql 23 (.slice none 0 0) (.slice none 0 0)).run prog W=.ok (.bool true) W:=fun W=>by kernel_rfl
 go_wp2_with fail;go_ret;exact⟨rfl,rfl⟩
structure KnW (w X:World)(g bl be bn:Nat)(Ae:Option Addr)(ce:Nat):Prop where
 bel:Below w.heap.size w X
 chk:Chk X g (.slice none 0 0) (.slice none 0 0) 1 ⟨#[]⟩ ⟨#[]⟩ (.slice Ae 2 ce) (.slice none 0 0) bl be bn
 last:z7r X bl zgn
 edt:∃ F,z7s X be F
 ne:bl≠be
 le:w.heap.size≤be
theorem knNew (Ae:Option Addr)(ce:Nat)(w:World):Calls prog 72 #[.agg #[.slice none 0 0,.slice none 0 0],.agg #[.int .i64 1,.string ⟨#[]⟩,.string ⟨#[]⟩,.slice Ae 2 ce,.slice none 0 0]] w fun e w'=>∃ g bl be bn,e=.returned (.pointer (some ⟨g,0,none⟩))∧KnW w w' g bl be bn Ae ce:=by
 have hmm:=@run_makeMap prog;go_enter func72,ntmps72;go_wp2_with fail;refine wp_loop_rounds 1 ?_;rw[rounds_succ];go_wp2_with fail;go_ret;refine⟨w.heap.size+1+1+1+1+1,w.heap.size+1+1,w.heap.size+1+1+1,w.heap.size+1+1+1+1,rfl,((((((Below.refl _ _).alloc (Nat.le_refl _) _).alloc (by simp) _).alloc (by simp;omega) _).alloc (by simp;omega) _).alloc (by simp;omega) _).alloc (by simp;omega) _,?_,?_,⟨fun _=>none,?_⟩,?_,?_⟩
 case refine_1=>
  have:=z0l (((((w.alloc (.cells #[.slice none 0 0,.slice none 0 0] 26)).alloc (.cells #[.int .i64 1,.string ⟨#[]⟩,.string ⟨#[]⟩,.slice Ae 2 ce,.slice none 0 0] 95)).alloc (.map #[] 0)).alloc (.map #[] 0)).alloc (.map #[] 0)) [.slice none 0 0,.slice none 0 0,.int .i64 1,.string ⟨#[]⟩,.string ⟨#[]⟩,.slice Ae 2 ce,.slice none 0 0,.map (some (w.heap.size+1+1)),.map (some (w.heap.size+1+1+1)),.map (some (w.heap.size+1+1+1+1))] 183;simp only[World.size_alloc] at this
  exact this
 case refine_2 =>
  have:=z2f.new Value.string Rev.val ((w.alloc (.cells #[.slice none 0 0,.slice none 0 0] 26)).alloc (.cells #[.int .i64 1,.string ⟨#[]⟩,.string ⟨#[]⟩,.slice Ae 2 ce,.slice none 0 0] 95));simp only[World.size_alloc] at this
  exact z2f.alloc (z2f.alloc (z2f.alloc this _) _) _
 case refine_3 =>
  have:=z2f.new Value.string Edt.val (((w.alloc (.cells #[.slice none 0 0,.slice none 0 0] 26)).alloc (.cells #[.int .i64 1,.string ⟨#[]⟩,.string ⟨#[]⟩,.slice Ae 2 ce,.slice none 0 0] 95)).alloc (.map #[] 0));simp only[World.size_alloc] at this
  exact z2f.alloc (z2f.alloc this _) _
 case refine_4=>omega
 case refine_5=>omega
theorem knSteps (g:Nat)(w:World):Calls prog 73 #[.pointer (some ⟨g,0,none⟩)] w fun e w'=>e=.returned (.slice (some ⟨w.heap.size,0,none⟩) 5 5)∧Below w.heap.size w w'∧Blk w' w.heap.size 141 [.func (.func 113) #[.pointer (some ⟨g,0,none⟩)] #[],.func (.func 114) #[.pointer (some ⟨g,0,none⟩)] #[],.func (.func 115) #[.pointer (some ⟨g,0,none⟩)] #[],.func (.func 116) #[.pointer (some ⟨g,0,none⟩)] #[],.func (.func 117) #[.pointer (some ⟨g,0,none⟩)] #[]]:=by
 go_enter func73,ntmps73;go_wp2_with fail;go_ret;exact⟨rfl,(Below.refl _ _).alloc (Nat.le_refl _) _,z0l w _ _⟩
theorem zij (p:ByteArray)(g bl be bn:Nat)(Ae:Option Addr)(ce:Nat)(w:World)(hk:Chk w g (.slice none 0 0) (.slice none 0 0) 1 ⟨#[]⟩ ⟨#[]⟩ (.slice Ae 2 ce) (.slice none 0 0) bl be bn)(hL:z7r w bl zgn):Calls prog 76 #[.pointer (some ⟨g,0,none⟩),.agg #[.string p,.int .i64 1,.int .i64 1,.bool false,.bool false,.bool false,.int .u64 1,.int .i64 1,.int .i64 0,.string ⟨#[]⟩,.int .i64 0,.int .i64 0]] w fun e w'=>e=.returned (.agg #[.string p,.int .i64 1,.int .i64 1,.int .i64 1,.int .i64 1,.bool false,.bool false,.bool false,.int .u64 1,.int .i64 1,.string ⟨#[]⟩,.int .i64 0])∧Below w.heap.size w w':=
 zht zgn (knE p) g _ _ _ _ 1 _ _ bl be bn w hk hL (Int.le_refl 0) (show (0:Int)≤1000000 by decide)
section
variable {u0 u1 u2 u3 u4 u5 u6 u7 u8 u9 gn gt gu gx gy gz gA gC gD gE gF gG gH gI gJ gK gL gM gN gO gP gQ gR gT gV gW gX gY gZ i6 i7 i8 ia ib ic ie ig ii ij ik il im io ip iq ir iu iv iw ix : Value}
theorem knR13 (ops:Array Oper)(hops:Tryz.f43.body.bind (zci 13)=some ops)(Q:Exit→Act→World→Prop)(g g10 ge n:Nat)(p:ByteArray)(v1 v2:Value)(xs:List Value)(V V1:World)
  (hR:WaR V V1 g10 v1 v2 n xs) (hB:Blk V1 ge 90 [.string p,.int .i64 1,.int .i64 1,.bool false,.bool false,.bool false,.int .u64 1,.int .i64 1,.int .i64 0,.string ⟨#[]⟩,.int .i64 0,.int .i64 0]) (hn:n≤100000)
  (hrev:∀ X,Below V1.heap.size V1 X→Calls prog 76 #[.pointer (some ⟨g,0,none⟩),.agg #[.string p,.int .i64 1,.int .i64 1,.bool false,.bool false,.bool false,.int .u64 1,.int .i64 1,.int .i64 0,.string ⟨#[]⟩,.int .i64 0,.int .i64 0]] X fun e w'=>e=.returned (.agg #[.string p,.int .i64 1,.int .i64 1,.int .i64 1,.int .i64 1,.bool false,.bool false,.bool false,.int .u64 1,.int .i64 1,.string ⟨#[]⟩,.int .i64 0])∧Below X.heap.size X w')
  (hQ:∀(eY eZ fa fd fe ff fg fh:Value) (v3:Value) (w':World),Hid (WaR V w' g10 v3 v2 (n+1) (xs++[.string p,.int .i64 1,.int .i64 1,.int .i64 1,.int .i64 1,.bool false,.bool false,.bool false,.int .u64 1,.int .i64 1,.string ⟨#[]⟩,.int .i64 0]))→Q .normal ⟨#[u0,u1,u2,u3,u4,u5,.pointer (some ⟨g,0,none⟩),u7,u8,u9,.pointer (some ⟨g10,0,none⟩),gt,.pointer (some ⟨ge,0,none⟩),gx,gy,gz,gA,gC,gD,gE,gF,gG,gH,gI,gJ,gK,gL,gM,gN,gO,gP,gQ,gR,gT,gV,gW,gX,gY,gZ,i6,i7,i8,ia,ib,ic,ie,ig,eY,eZ,fa,fd,fe,ff,fg,fh,ir,iu,iv,iw,ix],[]⟩ w'):
  (Code.region 13 ops true).wp prog Q ⟨#[u0,u1,u2,u3,u4,u5,.pointer (some ⟨g,0,none⟩),u7,u8,u9,.pointer (some ⟨g10,0,none⟩),gt,.pointer (some ⟨ge,0,none⟩),gx,gy,gz,gA,gC,gD,gE,gF,gG,gH,gI,gJ,gK,gL,gM,gN,gO,gP,gQ,gR,gT,gV,gW,gX,gY,gZ,i6,i7,i8,ia,ib,ic,ie,ig,ii,ij,ik,il,im,io,ip,iq,ir,iu,iv,iw,ix],[]⟩ V1:=by
 simp only[Tryz.f43,Option.bind_some,zci] at hops
 simp at hops
 subst hops;obtain⟨A1,c1,hv1⟩:=z0o hR.one;subst hv1;have HQ:=hd_ hQ;have HR:=hd_ hR;have HRV2:=hd_ hrev;have f0:V1.cell? ⟨g10,0,none⟩=some (.slice A1 n c1):=hR.box.cell 0;obtain⟨c0,c1',c2,c3,c4,c5,c6,c7,c8,c9,c10,c11⟩:=z7z hB;clear hQ hR hB hrev;refine wp_region_noPanic ?_;go_region_law (first
  | (refine zce rfl rfl zgt (z0n (z0n HR.out.one hS5) ((Below.refl _ _).alloc (Nat.le_refl _) _)) (by simp [Act.eval,Act.put]) (z0i w5 [.string p,.int .i64 1,.int .i64 1,.int .i64 1,.int .i64 1,.bool false,.bool false,.bool false,.int .u64 1,.int .i64 1,.string ⟨#[]⟩,.int .i64 0] _ 12 1 rfl (by decide) _ rfl) (by simp [Act.eval,Act.put]) (by simp [Value.oneCell']) (by omega) (by unfold maxLen;omega) (by have:=hS5.size;have:=HR.out.bel.size;simp;omega) ?_;intro A6 c6' w6 hO6 hG6 hw6;have hbx:=(HR.out.box.below (z0r hS5 ((Below.refl _ _).alloc (Nat.le_refl _) _)) HR.out.box.lt).grown hG6 (fun e=>HR.out.ne1 e.symm);obtain⟨b0,b1,g0,g1⟩:=box2 hbx)
  | (go_simp;go_at_call 76;refine (HRV2.out _ (Below.refl _ _).drew).mono ?_;rintro e w5 ⟨rfl,hX5⟩;have hS5:Below V1.heap.size V1 w5:=(Below.refl _ _).drew.trans hX5;have f5:w5.cell? ⟨g10,0,none⟩=some (.slice A1 n c1):=(HR.out.box.below hS5 HR.out.box.lt).cell 0;have f6:(w5.alloc (.cells #[.string p,.int .i64 1,.int .i64 1,.int .i64 1,.int .i64 1,.bool false,.bool false,.bool false,.int .u64 1,.int .i64 1,.string ⟨#[]⟩,.int .i64 0] 66)).cell? ⟨g10,0,none⟩=some (.slice A1 n c1):=(HR.out.box.below (hS5.alloc hS5.size _) HR.out.box.lt).cell 0)
  | fail)
 all_goals exact NoPanic.normal (HQ.out _ _ _ _ _ _ _ _ _ _ (HR.out.push (z0r hS5 ((Below.refl _ _).alloc (Nat.le_refl _) _)) hO6 hG6 hw6))
theorem knR9 (ops:Array Oper)(hops:Tryz.f43.body.bind (zci 9)=some ops)(Q:Exit→Act→World→Prop)(gd gc:Nat)(ev:Value)(V:World)
  (hD:Blk V gd 26 [.slice none 0 0,.slice none 0 0]) (hC:Blk V gc 95 [.int .i64 1,.string ⟨#[]⟩,.string ⟨#[]⟩,ev,.slice none 0 0])
  (hQ:∀(eH eI eJ eK eL eM eN eO eP eQ:Value) (g10:Nat) (v2:Value) (w':World),Hid (WaR V w' g10 (.slice none 0 0) v2 0 []∧∃ A c,v2=.slice A 0 c)→Q .normal ⟨#[u0,u1,.pointer (some ⟨gd,0,none⟩),.pointer (some ⟨gc,0,none⟩),u4,u5,u6,u7,u8,u9,.pointer (some ⟨g10,0,none⟩),gt,gu,gx,gy,gz,gA,gC,gD,gE,gF,gG,gH,gI,gJ,gK,gL,gM,gN,gO,eH,eI,eJ,eK,eL,eM,eN,eO,eP,eQ,i7,i8,ia,ib,ic,ie,ig,ii,ij,ik,il,im,io,ip,iq,ir,iu,iv,iw,ix],[]⟩ w'):
  (Code.region 9 ops true).wp prog Q ⟨#[u0,u1,.pointer (some ⟨gd,0,none⟩),.pointer (some ⟨gc,0,none⟩),u4,u5,u6,u7,u8,u9,gn,gt,gu,gx,gy,gz,gA,gC,gD,gE,gF,gG,gH,gI,gJ,gK,gL,gM,gN,gO,gP,gQ,gR,gT,gV,gW,gX,gY,gZ,i6,i7,i8,ia,ib,ic,ie,ig,ii,ij,ik,il,im,io,ip,iq,ir,iu,iv,iw,ix],[]⟩ V:=by
 simp only[Tryz.f43,Option.bind_some,zci] at hops
 simp at hops
 subst hops;have HQ:=hd_ hQ;have HC:Hid (∀ X,Below V.heap.size V X→X.cell? ⟨gd,0,none⟩=some (.slice none 0 0)∧X.cell? ⟨gd,1,none⟩=some (.slice none 0 0)∧X.cell? ⟨gc,4,none⟩=some (.slice none 0 0)):=hd_ fun X hX=>⟨(hD.below hX hD.lt).cell 0,(hD.below hX hD.lt).cell 1,(hC.below hX hC.lt).cell 4⟩;obtain⟨x0,x1,x2⟩:=HC.out V (Below.refl _ _);clear hQ hD hC;go_region_held3 (fun w'=>Below V.heap.size V w'∧w'.cell? ⟨gd,0,none⟩=some (.slice none 0 0)∧w'.cell? ⟨gd,1,none⟩=some (.slice none 0 0)∧w'.cell? ⟨gc,4,none⟩=some (.slice none 0 0))
  ((refine z3n ?_ (HC.out _);repeat (first | with_reducible assumption | with_reducible exact Below.refl _ _ | with_reducible refine Below.drew ?_ | with_reducible refine zcf ?_ _ | refine Below.setCell ?_ (by first | exact hS6.size | exact hle | (have:=hS6.size;simp;omega) | (simp;done)) _)))
  (first
   | (go_at_call 74;refine (knClone _).mono ?_;rintro e w5 ⟨rfl,rfl⟩)
   | (go_at_call 75;refine (zii _ _ (by first | exact z0l _ _ _ | exact Blk.drew' (z0l _ _ _) | exact Blk.alloc (z0l _ _ _) _ | exact Blk.alloc (Blk.drew' (z0l _ _ _)) _ | exact Blk.drew' (Blk.alloc (z0l _ _ _) _) | exact zch (by simp) | exact Blk.drew' (zch (by simp)))).mono ?_;rintro e w6 ⟨A6,c6,rfl,hX6⟩;have hS6:Below V.heap.size V w6:=(by repeat (first | exact Below.refl _ _ | refine Below.drew ?_ | refine zcf ?_ _):Below V.heap.size V _).trans (hX6.mono (by simp;try omega));(first | (have hblk:=Blk.below (g:=V.heap.size) (e:=26) (cs:=[.slice none 0 0,.slice none 0 0]) (by first | exact z0l V _ _ | exact Blk.drew' (z0l V _ _) | exact Blk.alloc (z0l V _ _) _ | exact Blk.alloc (Blk.drew' (z0l V _ _)) _ | exact Blk.drew' (Blk.alloc (z0l V _ _) _)) hX6 (by simp;try omega);have hle:V.heap.size≤V.heap.size:=Nat.le_refl _;obtain⟨r0,r1,f0,f1⟩:=box2 hblk) | (have hblk:=Blk.below (g:=V.heap.size+1) (e:=26) (cs:=[.slice none 0 0,.slice none 0 0]) (by first | exact zch (by simp) | exact Blk.drew' (zch (by simp))) hX6 (by simp;try omega);have hle:V.heap.size≤V.heap.size+1:=Nat.le_succ _;obtain⟨r0,r1,f0,f1⟩:=box2 hblk) | skip)))
 all_goals first
  | exact HQ.out _ _ _ _ _ _ _ _ _ _ _ _ _ ⟨⟨hS6.alloc hS6.size _,hS6.size,z0l w6 _ _,World.ownsRow_nil _ _ _ _,(fun e=>by cases e)⟩,A6,c6,rfl⟩
  | exact HQ.out _ _ _ _ _ _ _ _ _ _ _ _ _ ⟨⟨(hS6.setCell hle _).setCell hle _,hle,(hblk.set_ 0 _).set_ 1 _,World.ownsRow_nil _ _ _ _,(fun e=>by cases e)⟩,A6,c6,rfl⟩
end
end Go.Proofs.YtegeboijhifmcaaGreatDoor
