/- The reference's examination of an edit: that it comes to an end (from its type on). -/
import Derived.Test.YtegeboijhifmcaaGreatDoorMgw16
import Derived.Test.YtegeboijhifmcaaGreatDoorMgw15
import Derived.Test.YtegeboijhifmcaaGreatDoorMgw8
import Derived.Test.YtegeboijhifmcaaGreatDoorMgw17
import Derived.Test.YtegeboijhifmcaaGreatDoorMzDfB
import Derived.Test.YtegeboijhifmcaaGreatDoorMgw9
import Derived.Test.YtegeboijhifmcaaGreatDoorMgw3
import Derived.Test.YtegeboijhifmcaaGreatDoorMgw10
import Derived.Test.YtegeboijhifmcaaGreatDoorMgw18
namespace Go.Proofs.YtegeboijhifmcaaGreatDoor
set_option linter.unusedVariables false
set_option linter.unusedSimpArgs false
set_option maxHeartbeats 8000000
set_option maxRecDepth 100000
open Go.RowKit
theorem weT18 (T:Code)(hT:Tryz.f126.body.bind (zhv 18)=some T)(R:Ending→World→Prop)(revs:List Rev)(c:Chg)(x:Edt)(Ar Ae Ac:Option Addr)(dr:Value)(cr ce cc g3 g4 g7:Nat)(w4:World)
  (hR:z45 w4 (.slice Ar revs.length cr) revs) (hl:revs.length≤100000) (hbs:0≤x.base∧x.base≤1000000)
  (hD:Blk w4 g3 26 [.slice Ar revs.length cr,dr]) (hC:Blk w4 g4 95 [.int .i64 c.num,.string c.client,.string c.text,.slice Ae c.edits.length ce,.slice Ac c.recs.length cc]) (hX:Blk w4 g7 90 [.string x.path,.int .i64 x.act,.int .i64 x.ty.base,.bool x.ty.k,.bool x.ty.l,.bool x.ty.x,.int .u64 x.sum,.int .i64 x.size,.int .i64 x.base,.string x.frm,.int .i64 x.fnum,.int .i64 x.fence])
  (hRR:∀(n:Int) (w':World),Below w4.heap.size w4 w'→R (.returned (.int .i64 n)) w')
  (u0 u1 u2 u5 u6 u8 u9 gn gt gu gx gy gz gA gC gD gE gF gG gH gI gJ gK gL gM gN gO gP gQ gR gT gV gW gX gY gZ i6 i7 i8 ia ib ic ie ig ii ij ik il im io ip iq ir iu iv iw ix iy iz iA iB iC iD iE iF iG iH iI iJ iK iL iM iN iO iP iQ iR iS iT iU iV iW iX iY iZ j0 j1 j2 j5 j6 j7 j8 j9 jb jd je jf bw bz bA bB bD bE bF bG bH bI bJ bK bL bM bN bO bP bQ bT bU bV bW bX bY bZ ca cj ck cn cx cy cz cA cB cD cE cG cH cI cJ cM cN cO cP cQ cT cU cW:Value):
  T.wp Tryz.prog (bodyPost Tryz.prog Tryz.f126 R) ⟨#[u0,u1,u2,.pointer (some ⟨g3,0,none⟩),.pointer (some ⟨g4,0,none⟩),u5,u6,.pointer (some ⟨g7,0,none⟩),u8,u9,gn,gt,gu,gx,gy,gz,gA,gC,gD,gE,gF,gG,gH,gI,gJ,gK,gL,gM,gN,gO,gP,gQ,gR,gT,gV,gW,gX,gY,gZ,i6,i7,i8,ia,ib,ic,ie,ig,ii,ij,ik,il,im,io,ip,iq,ir,iu,iv,iw,ix,iy,iz,iA,iB,iC,iD,iE,iF,iG,iH,iI,iJ,iK,iL,iM,iN,iO,iP,iQ,iR,iS,iT,iU,iV,iW,iX,iY,iZ,j0,j1,j2,j5,j6,j7,j8,j9,jb,jd,je,jf,bw,bz,bA,bB,bD,bE,bF,bG,bH,bI,bJ,bK,bL,bM,bN,bO,bP,bQ,bT,bU,bV,bW,bX,bY,bZ,ca,cj,ck,cn,cx,cy,cz,cA,cB,cD,cE,cG,cH,cI,cJ,cM,cN,cO,cP,cQ,cT,cU,cW],[]⟩ w4:=by
 simp only[Tryz.f126,Option.bind_some,zhv,zhu] at hT
 simp at hT
 subst hT;have HRR:=hd_ hRR;have HR:=hd_ hR;have HBS:=hd_ hbs;have HX4:=hd_ hX;have HD4:=hd_ hD;have HC4:=hd_ hC;have HLAST:=hd_ (fun p X (hX:Below w4.heap.size w4 X)=>zh1 revs p (.slice Ar revs.length cr) dr X (HR.out.below hX) (by omega))
 clear hRR hR hbs hD hC hX;obtain⟨c0,c1,c2,c3,c4,c5,c6,c7,c8,c9,c10,c11⟩:=z7z HX4.out;have HCK:=hd_ (fun X=>zi3 x.ty.base x.ty.k x.ty.l x.ty.x X);cases htk:z2j x.ty.base x.ty.k x.ty.x with
 | false =>
  rw[htk] at HCK;clear htk;go_wp2_with fail;refine (HCK.out _).mono ?_;rintro e w5 ⟨rfl,hb5⟩;have HB5:=hd_ hb5;clear hb5;go_wp2_with fail;exact HRR.out _ _ (HB5.out)
 | true =>
  rw[htk] at HCK;clear htk;go_wp2_with fail;refine (HCK.out _).mono ?_;rintro e w5 ⟨rfl,hb5⟩;have HW5:=hd_ hb5;have HX5:=hd_ (HX4.out.below hb5 HX4.out.lt);have HD5:=hd_ (HD4.out.below hb5 HD4.out.lt);have HC5:=hd_ (HC4.out.below hb5 HC4.out.lt);clear hb5 c0 c1 c2 c3 c4 c5 c6 c7 c8 c9 c10 c11;obtain⟨c0,c1,c2,c3,c4,c5,c6,c7,c8,c9,c10,c11⟩:=z7z HX5.out;by_cases hz:x.size<0
  ·have q:decide (x.size<0)=true:=by simp;omega
   clear hz;go_wp2_with fail;exact HRR.out _ _ (HW5.out)
  ·have q:decide (x.size<0)=false:=by simp;omega
   clear hz;obtain⟨d0,d1,-,-⟩:=box2 HD5.out;have HL2:=hd_ (HLAST.out x.path w5 HW5.out);go_wp2_with fail;refine HL2.out.mono ?_;rintro e w6 ⟨rfl,hb6⟩;generalize zec (zgs revs x.path)=r;generalize (zgs revs x.path).isSome=okb;have hY:=z0l w6 [.string r.path,.int .i64 r.num,.int .i64 r.chg,.int .i64 r.act,.int .i64 r.ty.base,.bool r.ty.k,.bool r.ty.l,.bool r.ty.x,.int .u64 r.sum,.int .i64 r.size,.string r.frm,.int .i64 r.fnum] 66;have hA6:Below w5.heap.size w5 (w6.alloc (.cells #[.string r.path,.int .i64 r.num,.int .i64 r.chg,.int .i64 r.act,.int .i64 r.ty.base,.bool r.ty.k,.bool r.ty.l,.bool r.ty.x,.int .u64 r.sum,.int .i64 r.size,.string r.frm,.int .i64 r.fnum] 66)):=zcf hb6 _;clear hb6 c0 c1 c2 c3 c4 c5 c6 c7 c8 c9 c10 c11 d0 d1;go_upto_region 21 with fail;generalize w6.alloc (.cells #[.string r.path,.int .i64 r.num,.int .i64 r.chg,.int .i64 r.act,.int .i64 r.ty.base,.bool r.ty.k,.bool r.ty.l,.bool r.ty.x,.int .u64 r.sum,.int .i64 r.size,.string r.frm,.int .i64 r.fnum] 66)=w7 at hY hA6 ⊢;generalize w6.heap.size=g14 at hY ⊢;have HX7:=hd_ (HX5.out.below hA6 HX5.out.lt);have HC7:=hd_ (HC5.out.below hA6 HC5.out.lt);have HY:=hd_ hY;have HW7:=hd_ (z0r HW5.out hA6);clear hY hA6;obtain⟨c0,c1,c2,c3,c4,c5,c6,c7,c8,c9,c10,c11⟩:=z7z HX7.out;obtain⟨k0,k1,k2,k3,k4⟩:=zhx HC7.out;have HMD:=hd_ (zhz c.num c.client c.text Ae Ac c.edits.length c.recs.length ce cc x w7 HBS.out);go_wp2_with fail;refine HMD.out.mono ?_;rintro e w8 ⟨rfl,hb8⟩;have HB8:=hd_ hb8;clear hb8 c0 c1 c2 c3 c4 c5 c6 c7 c8 c9 c10 c11 k0 k1 k2 k3 k4;have HGO:=hd_ (zhw (zhy c.num x) w8);go_wp2_with fail;refine HGO.out.mono ?_;rintro e w9 ⟨rfl,hb9⟩;have HB9:=hd_ (z0r HB8.out hb9);clear hb9;obtain⟨c0,c1,c2,c3,c4,c5,c6,c7,c8,c9,c10,c11⟩:=z7z (HX7.out.below HB9.out HX7.out.lt);obtain⟨b0,b1,b2,b3,b4,b5,b6,b7,b8,b9,b10,b11⟩:=z7z (HY.out.below HB9.out HY.out.lt);have hact:(zhy c.num x).act=x.act:=rfl;rw[hact];clear hact;have hty:=zhr x.ty r.ty;have hcn:=zhs x.sum x.size 0 0;generalize (decide (x.sum=0) && decide (x.size=0))=bc at hcn
   generalize decide (x.ty=r.ty)=bt at hty;cases hlv:z2v x.act with
   | true =>
    clear hlv;go_wp2_with fail;exact HRR.out _ _ (z0r HW7.out HB9.out)
   | false =>
    clear hlv;cases bt with
    | false =>
     go_wp2_with fail;exact HRR.out _ _ (z0r HW7.out HB9.out)
    | true =>
     cases bc with
     | false =>
      go_wp2_with fail;exact HRR.out _ _ (z0r HW7.out HB9.out)
     | true =>
      go_wp2_with fail;exact HRR.out _ _ (z0r HW7.out HB9.out)
open Go.Sort (grow)
def zix:Option Syn→Syn→Bool
 | none,_=>false
 | some q,x=>decide (0≤z2u q.path x.path)
def ziy (f:ByteArray→Option ByteArray):Option Syn→List Syn→Bool
 | _,[]=>false
 | p,x :: r=>if (!zik x ((f x.path).getD z2l) || zix p x)=true then true else ziy f (some x) r
def ziz (hs:List Hav):ByteArray→Option ByteArray:=hs.foldl (fun f h=>upd f h.path h.loc) (fun _=>none)
theorem zj0 (l:List Hav)(h:Hav):ziz (l++[h])=upd (ziz l) h.path h.loc:=by unfold ziz;rw[List.foldl_append];rfl
def zj1 (hs:List Hav)(ss:List Syn):Int:=
 if z4g hs=0 then (if ziy (ziz hs) none ss=true then 351 else if z4g (z4y hs ss)=0 then 0 else 351) else 350
theorem planE_1 {hs:List Hav}{ss:List Syn}(h:¬ z4g hs=0):zj1 hs ss=350:=if_neg h
theorem zj2 {hs:List Hav}{ss:List Syn}(h:z4g hs=0):zj1 hs ss=if ziy (ziz hs) none ss=true then 351 else if z4g (z4y hs ss)=0 then 0 else 351:=if_pos h
theorem zj3 (o:Option ByteArray):z2h Value.string (.string z2l) false o=.string (o.getD z2l):=by cases o <;> rfl
def zj4 (l:List Syn):Option Syn:=l.getLast?
theorem zj5 (l:List Syn)(x:Syn):zj4 (l++[x])=some x:=by unfold zj4;simp
theorem zj6 (hs:List Hav)(ss:List Syn)(hv pv:Value)(w:World)(hH:z4b w hv hs)(hS:z4z w pv ss)
  (hz:∀ x∈hs,x.path.size≤1000000∧x.loc.size≤1000000) (hz2:∀ x∈ss,x.path.size≤1000000∧x.dst.size≤1000000) (hzr:∀ x∈z4y hs ss,x.path.size≤1000000∧x.loc.size≤1000000) (hl:hs.length+ss.length≤1000000)
  (hres:∀ X,Below w.heap.size w X→Calls Tryz.prog 39 #[hv,pv] X fun e w'=>∃ v,e=.returned v∧z4b w' v (z4y hs ss)∧Below X.heap.size X w'):
  Calls Tryz.prog 19 #[hv,pv] w fun e w'=>e=.returned (.int .i64 (zj1 hs ss))∧Below w.heap.size w w':=by
 have HC0:=hd_ (fun X (hX:Below w.heap.size w X)=>z4o hs hv X (hH.below hX) (fun x hx=>⟨by have:=(hz x hx).1;omega,by have:=(hz x hx).2;omega⟩))
 have HC1:=hd_ (fun X v (hv:z4b X v (z4y hs ss))=>z4o (z4y hs ss) v X hv (fun x hx=>⟨by have:=(hzr x hx).1;omega,by have:=(hzr x hx).2;omega⟩))
 have HRES:=hd_ hres;have HH:=hd_ hH;have HS:=hd_ hS;have HZ2:=hd_ hz2;obtain⟨Ah,ch,rfl,-⟩:=id hH;obtain⟨A1,c1,rfl,-⟩:=id hS;have hmm:=@run_makeMap Tryz.prog;clear hres hH hS hz hz2 hzr;by_cases he:z4g hs=0
 case neg =>
  have HE:=hd_ (planE_1 (ss:=ss) he);have HC:=hd_ (HC0.out w (Below.refl _ _));generalize z4g hs=ce at he HC;have n0:(ce == 0)=false:=beq_eq_false_iff_ne.2 he;have n1:(ce != 0)=true:=by rw[bne,n0];rfl
  clear he;go_enter Tryz.func19,Tryz.ntmps19;go_wp2_with fail;refine HC.out.mono ?_;rintro e w1 ⟨rfl,hb1⟩;have HB1:=hd_ hb1;clear hb1;go_wp2_with fail;go_ret;exact⟨z34 HE.out.symm,HB1.out⟩
 case pos =>
  have HE:=hd_ (zj2 (ss:=ss) he);rw[he] at HC0;clear he;have HC:=hd_ (HC0.out w (Below.refl _ _));go_enter Tryz.func19,Tryz.ntmps19;go_wp2_with fail;refine HC.out.mono ?_;rintro e w1 ⟨rfl,hb1⟩;have HM1:=hd_ (z2f.new Value.string Value.string w1);have HB2:=hd_ (hb1.alloc hb1.size (.map #[] 0));have HW:=hd_ hb1.size;clear hb1;go_wp2_with fail;go_loopw [16] (fun i wr=>∃ k:Nat,k≤hs.length∧i=.int .i64 k∧Hid (Below w.heap.size w wr)∧Hid (z2f Value.string Value.string wr w1.heap.size (ziz (hs.take k)))) (fun i _=>hs.length - (intOf i).toNat)
  case atStart=>exact⟨0,Nat.zero_le _,rfl,HB2,HM1⟩
  case round =>
   obtain⟨k,hk,rfl,HB,HM⟩:=hrel;by_cases hlt:k<hs.length
   ·obtain⟨ad,rfl,hab,y0,y1,y2⟩:=z4b.at_ (HH.out.below HB.out) hlt;have HT:=hd_ (show hs.take (k+1)=hs.take k++[hs[k]] from List.take_succ_eq_append_getElem hlt);generalize hs[k]=h at y0 y1 y2 HT;have HB3:=hd_ (HB.out.alloc HB.out.size (.cells #[.string h.path,.int .i64 h.num,.string h.loc] 44));have HM3:=hd_ (HM.out.alloc (.cells #[.string h.path,.int .i64 h.num,.string h.loc] 44));obtain⟨z0,z1,z2⟩:=z3s (x:=h) (z0l wr [.string h.path,.int .i64 h.num,.string h.loc] 44);obtain⟨w3,hup,hM4,hg4,-⟩:=z2f.update (w:=wr.alloc (.cells #[.string h.path,.int .i64 h.num,.string h.loc] 44)) HM3.out (z2d Tryz.underlying9) Tryz.underlying101 h.path h.loc;have HN:Hid (Below w.heap.size w w3∧z2f Value.string Value.string w3 w1.heap.size (ziz (hs.take (k+1)))):=hd_ ⟨HB3.out.trans ⟨hg4.os,hg4.tape,hg4.output,hg4.size,fun q hq=>hg4.block q (Nat.lt_of_lt_of_le hq HB3.out.size) (by intro e;injection e with e;have:=HW.out;omega)⟩,by rw[HT.out,zj0];exact hM4⟩
    have HLT:=hd_ hlt;clear hM4 hg4;go_wp2_with fail;go_roundw
    case rel=>exact⟨k+1,by omega,by go_num,hd_ HN.out.1,hd_ HN.out.2⟩
    case measure=>simp [intOf];omega
   ·have hke:k=hs.length:=by omega
    subst hke;rw[List.take_length] at HM;have hge:¬((hs.length:Int)<(hs.length:Int)):=by omega
    go_wp2_with fail;go_loopw [28] (fun i wr=>∃ k:Nat,k≤ss.length∧i=.int .i64 k∧Hid (Below w.heap.size w wr)∧Hid (z2f Value.string Value.string wr w1.heap.size (ziz hs))∧Hid (ziy (ziz hs) none ss=ziy (ziz hs) (zj4 (ss.take k)) (ss.drop k))) (fun i _=>ss.length - (intOf i).toNat)
    case atStart=>exact⟨0,Nat.zero_le _,rfl,HB,HM,hd_ rfl⟩
    case round =>
     obtain⟨k,hk,rfl,HB,HM,HV⟩:=hrel;by_cases hlt:k<ss.length
     ·have hprev:k=0∨∃(j:Nat) (hj:j<ss.length),k=j+1∧zj4 (ss.take k)=some ss[j]:=by
       cases k with
       | zero=>exact .inl rfl
       | succ j=>exact .inr ⟨j,by omega,rfl,by rw[List.take_succ_eq_append_getElem (by omega),zj5]⟩
      obtain⟨ad,rfl,hab,y0,y1,y2,y3,y4⟩:=z4z.at_ (HS.out.below HB.out) hlt;have hxs:=HZ2.out ss[k] (List.getElem_mem _);have HT:=hd_ (show ss.take (k+1)=ss.take k++[ss[k]] from List.take_succ_eq_append_getElem hlt);rw[List.drop_eq_getElem_cons hlt] at HV;generalize ss[k]=x at y0 y1 y2 y3 y4 hxs HT HV;have HB3:=hd_ (HB.out.alloc HB.out.size (.cells #[.int .i64 x.kind,.string x.path,.int .i64 x.num,.string x.frm,.string x.dst] 48));have HM3:=hd_ (HM.out.alloc (.cells #[.int .i64 x.kind,.string x.path,.int .i64 x.num,.string x.frm,.string x.dst] 48));obtain⟨z0,z1,z2,z3,z4⟩:=z3r (x:=x) (z0l wr [.int .i64 x.kind,.string x.path,.int .i64 x.num,.string x.frm,.string x.dst] 48);have cL:∀ d os,(Instr.lookup 101 (.map (some w1.heap.size)) (.string x.path) false).run Tryz.prog (grow (redrawn (wr.alloc (.cells #[.int .i64 x.kind,.string x.path,.int .i64 x.num,.string x.frm,.string x.dst] 48)) d) os)=.ok (.string ((ziz hs x.path).getD z2l)) (grow (redrawn (wr.alloc (.cells #[.int .i64 x.kind,.string x.path,.int .i64 x.num,.string x.frm,.string x.dst] 48)) d) os):=fun d os=>by
       have hh:=z2f.lookup (z2f.below HM3.out (below_regrown _ d os)) (z2d Tryz.underlying9) Tryz.underlying101 (z:=.string z2l) (by rfl) x.path false
       rw[zj3] at hh;exact hh
      have HF:=hd_ (fun X=>zin x ((ziz hs x.path).getD z2l) X (by omega) (by omega))
      have m0:=cell_regrown z0;have m1:=cell_regrown z1;have m2:=cell_regrown z2;have m3:=cell_regrown z3;have m4:=cell_regrown z4;generalize hlo:(ziz hs x.path).getD z2l=lo at cL HF;cases hok:zik x lo
      ·have HO:Hid (zj1 hs ss=351):=hd_ (by rw[HE.out,HV.out,ziy,hlo,hok];rfl)
       rw[hok] at HF;have cF:∀ d os,Calls Tryz.prog 44 #[.agg #[.int .i64 x.kind,.string x.path,.int .i64 x.num,.string x.frm,.string x.dst],.string lo] (grow (redrawn (wr.alloc (.cells #[.int .i64 x.kind,.string x.path,.int .i64 x.num,.string x.frm,.string x.dst] 48)) d) os) fun e w''=>e=.returned (.bool false)∧∃ p:Regrown,w''=grow (redrawn (wr.alloc (.cells #[.int .i64 x.kind,.string x.path,.int .i64 x.num,.string x.frm,.string x.dst] 48)) p.d) p.os:=fun d os=>Calls.regrown_of (by have hh:=HF.out (grow (redrawn (wr.alloc (.cells #[.int .i64 x.kind,.string x.path,.int .i64 x.num,.string x.frm,.string x.dst] 48)) d) os);exact hh)
       clear hok hprev hlo;go_wp2_with fail;refine wp_region_quiet_below (by kernel_rfl) (by kernel_rfl) ?_
       repeat (first | go_big_quiet_step (exact cF _ _) | quiet_step (exact cF _ _))
       refine wpQuiet_nil ?_;intro _ hw9;obtain⟨⟨dq,osq⟩,hw9⟩:=hw9;subst hw9;have HB4:=hd_ (z0q HB3.out HB3.out.size (below_regrown _ dq osq));have HM4:=hd_ (z2f.below HM3.out (below_regrown _ dq osq));generalize grow (redrawn (wr.alloc (.cells #[.int .i64 x.kind,.string x.path,.int .i64 x.num,.string x.frm,.string x.dst] 48)) dq) osq=W5 at HB4 HM4 ⊢;go_wp2_with fail;go_ret;exact⟨z34 HO.out.symm,HB4.out⟩
      ·rw[hok] at HF;have cF:∀ d os,Calls Tryz.prog 44 #[.agg #[.int .i64 x.kind,.string x.path,.int .i64 x.num,.string x.frm,.string x.dst],.string lo] (grow (redrawn (wr.alloc (.cells #[.int .i64 x.kind,.string x.path,.int .i64 x.num,.string x.frm,.string x.dst] 48)) d) os) fun e w''=>e=.returned (.bool true)∧∃ p:Regrown,w''=grow (redrawn (wr.alloc (.cells #[.int .i64 x.kind,.string x.path,.int .i64 x.num,.string x.frm,.string x.dst] 48)) p.d) p.os:=fun d os=>Calls.regrown_of (by have hh:=HF.out (grow (redrawn (wr.alloc (.cells #[.int .i64 x.kind,.string x.path,.int .i64 x.num,.string x.frm,.string x.dst] 48)) d) os);exact hh)
       rcases hprev with h0 | ⟨j,hj,hkj,hla⟩
       ·have HO:Hid (ziy (ziz hs) none ss=ziy (ziz hs) (zj4 (ss.take (k+1))) (ss.drop (k+1))):=hd_ (by rw[HV.out,ziy,hlo,hok,show zj4 (ss.take k)=none by rw[h0];rfl,HT.out,zj5];rfl)
        have n0:decide (0<k)=false:=by simp;omega
        clear h0 hok hlo;go_wp2_with fail;refine wp_region_quiet_below (by kernel_rfl) (by kernel_rfl) ?_
        repeat (first | go_big_quiet_step (exact cF _ _) | quiet_step (exact cF _ _))
        refine wpQuiet_nil ?_;intro _ hw9;obtain⟨⟨dq,osq⟩,hw9⟩:=hw9;subst hw9;have HB4:=hd_ (z0q HB3.out HB3.out.size (below_regrown _ dq osq));have HM4:=hd_ (z2f.below HM3.out (below_regrown _ dq osq));generalize grow (redrawn (wr.alloc (.cells #[.int .i64 x.kind,.string x.path,.int .i64 x.num,.string x.frm,.string x.dst] 48)) dq) osq=W5 at HB4 HM4 ⊢;go_wp2_with fail;go_roundw
        case rel=>exact⟨k+1,by omega,by go_num,HB4,HM4,HO⟩
        case measure=>simp [intOf];omega
       ·obtain⟨ad2,had,hab2,u0,u1,u2,u3,u4⟩:=z4z.at_ (HS.out.below HB.out) hj;injection had with had
        subst had;have hys:=HZ2.out ss[j] (List.getElem_mem _);generalize ss[j]=y at hla u0 u1 u2 u3 u4 hys;have hba:=(Below.refl wr.heap.size wr).alloc (Nat.le_refl _) (.cells #[.int .i64 x.kind,.string x.path,.int .i64 x.num,.string x.frm,.string x.dst] 48);have e1:=cell_regrown ((hba.cell (p:=⟨(ad.add (j * 5)).block,(ad.add (j * 5)).off+1,none⟩) (block_lt_of_cell u1)).trans u1);have n0:decide (0<k)=true:=by simp;omega
        have n1:(k:Int) - 1=(j:Int):=by omega
        have HCMP:=hd_ (fun X=>z41 y.path x.path X (by omega) (by omega))
        have cC:∀ d os,Calls Tryz.prog 45 #[.string y.path,.string x.path] (grow (redrawn (wr.alloc (.cells #[.int .i64 x.kind,.string x.path,.int .i64 x.num,.string x.frm,.string x.dst] 48)) d) os) fun e w''=>e=.returned (.int .i64 (z2u y.path x.path))∧∃ p:Regrown,w''=grow (redrawn (wr.alloc (.cells #[.int .i64 x.kind,.string x.path,.int .i64 x.num,.string x.frm,.string x.dst] 48)) p.d) p.os:=fun d os=>Calls.regrown_of ((HCMP.out (grow (redrawn (wr.alloc (.cells #[.int .i64 x.kind,.string x.path,.int .i64 x.num,.string x.frm,.string x.dst] 48)) d) os)).mono (by rintro e w5 ⟨rfl,n5,rfl⟩;exact⟨rfl,below_drewN _ _⟩))
        generalize hcv:z2u y.path x.path=cv at cC;by_cases hge:0≤cv
        ·have HO:Hid (zj1 hs ss=351):=hd_ (by rw[HE.out,HV.out,ziy,hlo,hok,hla,show zix (some y) x=true by rw[zix,hcv,decide_eq_true hge]];rfl)
         have n2:decide ((0:Int)≤cv)=true:=decide_eq_true hge;clear hcv hok hla hkj hge hlo;go_wp2_with fail;refine wp_region_quiet_below (by kernel_rfl) (by kernel_rfl) ?_
         repeat (first | go_big_quiet_step (first | exact cF _ _ | exact cC _ _) | quiet_step (first | exact cF _ _ | exact cC _ _))
         refine wpQuiet_nil ?_;intro _ hw9;obtain⟨⟨dq,osq⟩,hw9⟩:=hw9;subst hw9;have HB4:=hd_ (z0q HB3.out HB3.out.size (below_regrown _ dq osq));have HM4:=hd_ (z2f.below HM3.out (below_regrown _ dq osq));generalize grow (redrawn (wr.alloc (.cells #[.int .i64 x.kind,.string x.path,.int .i64 x.num,.string x.frm,.string x.dst] 48)) dq) osq=W5 at HB4 HM4 ⊢;go_wp2_with fail;go_ret;exact⟨z34 HO.out.symm,HB4.out⟩
        ·have HO:Hid (ziy (ziz hs) none ss=ziy (ziz hs) (zj4 (ss.take (k+1))) (ss.drop (k+1))):=hd_ (by rw[HV.out,ziy,hlo,hok,hla,HT.out,zj5,show zix (some y) x=false by rw[zix,hcv,decide_eq_false hge]];rfl)
         have n2:decide ((0:Int)≤cv)=false:=decide_eq_false hge;clear hcv hok hla hkj hge hlo;go_wp2_with fail;refine wp_region_quiet_below (by kernel_rfl) (by kernel_rfl) ?_
         repeat (first | go_big_quiet_step (first | exact cF _ _ | exact cC _ _) | quiet_step (first | exact cF _ _ | exact cC _ _))
         refine wpQuiet_nil ?_;intro _ hw9;obtain⟨⟨dq,osq⟩,hw9⟩:=hw9;subst hw9;have HB4:=hd_ (z0q HB3.out HB3.out.size (below_regrown _ dq osq));have HM4:=hd_ (z2f.below HM3.out (below_regrown _ dq osq));generalize grow (redrawn (wr.alloc (.cells #[.int .i64 x.kind,.string x.path,.int .i64 x.num,.string x.frm,.string x.dst] 48)) dq) osq=W5 at HB4 HM4 ⊢;go_wp2_with fail;go_roundw
         case rel=>exact⟨k+1,by omega,by go_num,HB4,HM4,HO⟩
         case measure=>simp [intOf];omega
     ·have hke:k=ss.length:=by omega
      subst hke;rw[List.drop_length] at HV;have hge:¬((ss.length:Int)<(ss.length:Int)):=by omega
      have HR1:=hd_ (HRES.out wr HB.out);have HE2:Hid (zj1 hs ss=if z4g (z4y hs ss)=0 then 0 else 351):=hd_ (by rw[HE.out,HV.out];rfl)
      go_wp2_with fail;refine HR1.out.mono ?_;rintro e w2 ⟨v,rfl,hv,hb2⟩;have HVV:=hd_ (HC1.out w2 v hv);have HB5:=hd_ (z0r HB.out hb2);obtain⟨A2,c2,rfl,-⟩:=id hv;clear hv hb2;generalize z4g (z4y hs ss)=ce at HVV HE2;go_wp2_with fail;refine HVV.out.mono ?_;rintro e w3 ⟨rfl,hb3⟩;have HB6:=hd_ (z0r HB5.out hb3);clear hb3;by_cases he:ce=0
      ·subst he;go_wp2_with fail;go_ret;exact⟨z34 HE2.out.symm,HB6.out⟩
      ·have HO:=hd_ (HE2.out.trans (if_neg he));have n0:(ce == 0)=false:=beq_eq_false_iff_ne.2 he;have n1:(ce != 0)=true:=by rw[bne,n0];rfl
       clear he;go_wp2_with fail;go_ret;exact⟨z34 HO.out.symm,HB6.out⟩
theorem zov (x:Int):∃ r:Nat,r<18446744073709551616∧IntKind.u64.wrap x=r:=
 ⟨(x % 18446744073709551616).toNat,by omega,by simp [IntKind.wrap,IntKind.bits,IntKind.signed];omega⟩
theorem zow (a b:Int):∃ r:Nat,r<18446744073709551616∧∀ w,Calls Tryz.prog 213 #[.int .u64 a,.int .u64 b] w fun e w'=>e=.returned (.int .u64 r)∧w'=w:=by
 obtain⟨s,hs,q0⟩:=zov (a+b);by_cases h:(2305843009213693951:Int)≤s
 ·have q1:decide ((2305843009213693951:Int)≤s)=true:=by simpa using h
  obtain⟨x,hx,q2⟩:=zov ((s:Int) - 2305843009213693951);clear h;by_cases h:(2305843009213693951:Int)≤x
  ·have q3:decide ((2305843009213693951:Int)≤x)=true:=by simpa using h
   obtain⟨y,hy,q4⟩:=zov ((x:Int) - 2305843009213693951);clear h;refine⟨y,hy,fun w=>?_⟩;go_enter Tryz.func213,Tryz.ntmps213;go_wp2_with fail;go_ret;exact⟨rfl,rfl⟩
  ·have q3:decide ((2305843009213693951:Int)≤x)=false:=by simpa using h
   clear h;refine⟨x,hx,fun w=>?_⟩;go_enter Tryz.func213,Tryz.ntmps213;go_wp2_with fail;go_ret;exact⟨rfl,rfl⟩
 ·have q1:decide ((2305843009213693951:Int)≤s)=false:=by simpa using h
  clear h;refine⟨s,hs,fun w=>?_⟩;go_enter Tryz.func213,Tryz.ntmps213;go_wp2_with fail;go_ret;exact⟨rfl,rfl⟩
theorem rMul_ex (a b:Nat)(ha:a<18446744073709551616)(hb:b<18446744073709551616):∃ r:Nat,r<18446744073709551616∧∀ w,Calls Tryz.prog 214 #[.int .u64 a,.int .u64 b] w fun e w'=>e=.returned (.int .u64 r)∧w'=w:=by
 have HM:=hd_ (fun w=>Tryz.bits_Mul64 a b ha hb w);generalize a * b / 18446744073709551616=hi at HM;generalize a * b % 18446744073709551616=lo at HM;obtain⟨r,hr,hP⟩:=zow (bits .and .u64 lo 2305843009213693951) (bits .or .u64 (IntKind.u64.wrap (hi * 8)) (lo / 2305843009213693952));have HP:=hd_ hP;clear hP;refine⟨r,hr,fun w=>?_⟩;go_enter Tryz.func214,Tryz.ntmps214;go_wp2_with fail;refine (HM.out _).mono ?_;rintro e w' ⟨rfl,rfl⟩;dsimp only;go_wp2_with fail;refine (HP.out _).mono ?_;rintro e w' ⟨rfl,rfl⟩;dsimp only;go_wp2_with fail;go_ret;exact⟨rfl,rfl⟩
theorem zox (l:List UInt8)(v:Value)(w:World)(hb:Bytes w v l):
  Calls Tryz.prog 180 #[v] w fun e w'=>(∃ r:Nat,r<18446744073709551616∧e=.returned (.int .u64 r))∧Below w.heap.size w w':=by
 obtain⟨A,c,rfl,hcc,hmm,-⟩:=id hb;have HB:=hd_ hb;unfold maxLen at hmm;clear hb;go_enter Tryz.func180,Tryz.ntmps180;go_wp2_with fail;go_loopw [3,4] (fun u i wr=>∃ k s:Nat,i=.int .i64 k∧u=.int .u64 s∧k≤l.length∧Hid (s<18446744073709551616∧Below w.heap.size w wr)) (fun _ i _=>l.length - (intOf i).toNat)
 case atStart=>exact⟨0,0,rfl,rfl,Nat.zero_le _,hd_ ⟨by decide,Below.refl _ _⟩⟩
 case round =>
  obtain⟨k,s,rfl,rfl,hk,HI⟩:=hrel;by_cases hlt:k<l.length
  ·obtain⟨ad,rfl,hab,x0⟩:=Bytes.at_ (HB.out.below HI.out.2) hlt;generalize l[k].toNat=xn at x0;obtain⟨m,hm,hM⟩:=rMul_ex s 747382712868975713 HI.out.1 (by decide)
   obtain⟨x1,hx1,q1⟩:=zov xn;obtain⟨x2,hx2,q2⟩:=zov ((x1:Int)+1);obtain⟨r,hr,hP⟩:=zow m x2;have HM:=hd_ hM;have HP:=hd_ hP;have HRR:=hd_ hr;have hzk:(k:Int)<(l.length:Int):=by omega
   have HLT:=hd_ hlt;clear hM hP hr hm hx1 hx2 hab hlt;go_upto_region 5 with fail;go_quiet ((first | (go_at_call 214;exact Calls.quiet_of_same (HM.out _)) | (go_at_call 213;exact Calls.quiet_of_same (HP.out _))))
   clear q1 q2 x0;go_wp2_with fail;go_roundw
   case rel=>exact⟨k+1,r,by go_num,rfl,by have:=HLT.out;omega,hd_ ⟨HRR.out,z0p HI.out.2 _⟩⟩
   case measure=>have:=HLT.out;simp [intOf];omega
  ·have hge:¬((k:Int)<(l.length:Int)):=by omega
   have HF:=hd_ HI.out;clear HI;go_wp2_with fail;go_ret;exact⟨⟨s,HF.out.1,rfl⟩,HF.out.2⟩
theorem rOf_any (l:List UInt8)(v:Value)(w:World)(hb:Bytes w v l):
  Calls Tryz.prog 132 #[v] w fun e w'=>(∃ r:Nat,e=.returned (.agg #[.int .u64 r,.int .i64 l.length]))∧Below w.heap.size w w':=by
 obtain⟨A,c,rfl,hcc,hmm,-⟩:=id hb;have hB:=z0l w [.int .u64 0,.int .i64 0] 64;have hA:Below w.heap.size w (w.alloc (.cells #[.int .u64 0,.int .i64 0] 64)):=(Below.refl _ _).alloc (Nat.le_refl _) _;have HS:=hd_ (zox l (.slice A l.length c) _ (Row.below hb hA));have HA:=hd_ hA;have HB:=hd_ hB;clear hb hA hB;unfold maxLen at hmm;go_enter Tryz.func132,Tryz.ntmps132;go_upto_region 1 with fail;generalize w.alloc (.cells #[.int .u64 0,.int .i64 0] 64)=W at HS HB HA ⊢;go_wp2_with fail;refine HS.out.mono ?_;rintro e w2 ⟨⟨r,hr,rfl⟩,hb⟩;dsimp only;have HX:=hd_ (HB.out.below hb HB.out.lt);have HA2:=hd_ (z0r HA.out hb);clear hb HS hr;have c0:w2.cell? ⟨w.heap.size,0,none⟩=some (.int .u64 0):=HX.out.cell 0;have c1:w2.cell? ⟨w.heap.size,1,none⟩=some (.int .i64 0):=HX.out.cell 1;have f0:w2.frozen? ⟨w.heap.size,0,none⟩=false:=HX.out.frozen 0;have f1:w2.frozen? ⟨w.heap.size,1,none⟩=false:=HX.out.frozen 1;have HR:=hd_ ((HX.out.set_ 0 (.int .u64 (r:Int))).set_ 1 (.int .i64 (l.length:Int)));have HA3:=hd_ ((HA2.out.setCell (p:=⟨w.heap.size,0,none⟩) (Nat.le_refl _) (.int .u64 (r:Int))).setCell (p:=⟨w.heap.size,1,none⟩) (Nat.le_refl _) (.int .i64 (l.length:Int)));go_wp2_with fail;have r0:=HR.out.cell 0;have r1:=HR.out.cell 1;exact bodyPost_ret (v:=.agg #[.int .u64 (r:Int),.int .i64 (l.length:Int)]) (by simp at r0 r1;simp [results,Tryz.results132,go_sem,r0,r1]) rfl ⟨⟨r,rfl⟩,HA3.out⟩
end Go.Proofs.YtegeboijhifmcaaGreatDoor
