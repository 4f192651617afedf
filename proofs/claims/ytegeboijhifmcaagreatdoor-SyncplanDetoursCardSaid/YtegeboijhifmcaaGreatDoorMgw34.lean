/- A part of the proof. -/
import Derived.Test.YtegeboijhifmcaaGreatDoorMgw30
import Derived.Test.YtegeboijhifmcaaGreatDoorMgw33
set_option linter.unusedVariables false
set_option linter.unusedSimpArgs false
set_option maxHeartbeats 8000000
set_option maxRecDepth 100000
namespace Go.Proofs.YtegeboijhifmcaaGreatDoor
open Go.RowKit
open Go.Sort (grow)
theorem zj7 (r:List Syn)(k:Nat)(hk:k<r.length):(r.take (k+1)).flatMap z4t=(r.take k).flatMap z4t++z4t r[k]:=by
 rw[List.take_succ_eq_append_getElem hk,z56]
theorem zj8 (x:Syn):(z4s x).length≤1:=by unfold z4s;split <;> simp
theorem zj9 (x:Syn):(z4t x).length≤1:=by unfold z4t;split;simp;exact zj8 x
theorem zja (l:List Syn):(l.flatMap z4t).length≤l.length:=by
 induction l with
 | nil=>simp
 | cons x l ih=>rw[List.flatMap_cons,List.length_append,List.length_cons];have:=zj9 x;omega
theorem room40 {n:Nat}(h:n≤1000000):n * 40≤140737488355328:=Nat.le_trans (Nat.mul_le_mul_right 40 h) (by decide)
theorem zjb (O:List Hav)(r:List Syn)(hl:O.length+r.length+1≤1000000)(k:Nat):((O++(r.take k).flatMap z4t).length+1) * 40≤140737488355328:=by
 have:=zja (r.take k);rw[List.length_take] at this;have h2:(O++(r.take k).flatMap z4t).length=O.length+((r.take k).flatMap z4t).length:=List.length_append;exact room40 (by omega)
theorem rsT17 (T:Code)(hT:Tryz.f39.body.bind (zhv 17)=some T)(R:Ending→World→Prop)(w0 w:World)(O:List Hav)(r:List Syn)(v:Value)(A1:Option Addr)(c1:Nat)
  (hA:Aft w0 w w0.heap.size O v) (hS:z4z w0 (.slice A1 r.length c1) r) (hl:O.length+r.length+1≤1000000)
  (hRR:∀ v' X,Aft w0 X w0.heap.size (O++r.flatMap z4t) v'→R (.returned v') X)
  (u0 u2 u3 u4 u7 u8 u9 gn gt gu gx gy gz gA gC gD gE gF gG gH gI gJ gK gL gM gN gO gP gQ gR gT gV gW gX gY gZ i6 i7 i8 ia ib ic ie ig ii ij ik il im io ip iq ir iu iv iw ix iy iz iA iB iC iD iE iF iG iH iI iJ iK iL iM iN iO iP iQ iR iS iT iU iV iW iX iY iZ j0:Value):
  T.wp Tryz.prog (bodyPost Tryz.prog Tryz.f39 R) ⟨#[u0,.slice A1 r.length c1,u2,u3,u4,.pointer (some ⟨w0.heap.size,0,none⟩),.func (.func 63) #[] #[.pointer (some ⟨w0.heap.size,0,none⟩)],u7,u8,u9,gn,gt,gu,gx,gy,gz,gA,gC,gD,gE,gF,gG,gH,gI,gJ,gK,gL,gM,gN,gO,gP,gQ,gR,gT,gV,gW,gX,gY,gZ,i6,i7,i8,ia,ib,ic,ie,ig,ii,ij,ik,il,im,io,ip,iq,ir,iu,iv,iw,ix,iy,iz,iA,iB,iC,iD,iE,iF,iG,iH,iI,iJ,iK,iL,iM,iN,iO,iP,iQ,iR,iS,iT,iU,iV,iW,iX,iY,iZ,j0],[]⟩ w:=by
 simp only[Tryz.f39,Option.bind_some,zhv,zhu] at hT
 simp at hT
 subst hT;obtain⟨A2,c2,e2,hc,hm,-⟩:=id hS;have hm':r.length≤140737488355328:=by omega
 clear hc hm e2 A2 c2;have HRR:=hd_ hRR;have HS:=hd_ hS;have HA:=hd_ hA;have HL:=hd_ (zjb O r hl);clear hRR hS hA hl;go_wp2_with fail;go_loopw [77] (fun i wr=>∃(k:Nat) (v':Value),k≤r.length∧i=.int .i64 k∧Hid (Aft w0 wr w0.heap.size (O++(r.take k).flatMap z4t) v')) (fun i _=>r.length - (intOf i).toNat)
 case atStart=>exact⟨0,v,Nat.zero_le _,rfl,hd_ (by rw[List.take_zero,List.flatMap_nil,List.append_nil];exact HA.out)⟩
 case round =>
  obtain⟨k,v',hk,rfl,HI⟩:=hrel;clear HA;by_cases hlt:k<r.length
  ·obtain⟨ad,rfl,hab,y0,y1,y2,y3,y4⟩:=z4z.at_ (HS.out.below HI.out.bel) hlt;have HST:=hd_ (zj7 r k hlt);have HLK:=hd_ (HL.out k);generalize r[k]=x at y0 y1 y2 y3 y4 HST;have HX:=hd_ (HI.out.alloc (.cells #[.int .i64 x.kind,.string x.path,.int .i64 x.num,.string x.frm,.string x.dst] 48));obtain⟨z0,z1,z2,z3,z4⟩:=z3r (x:=x) (z0l wr [.int .i64 x.kind,.string x.path,.int .i64 x.num,.string x.frm,.string x.dst] 48);have HSY:=hd_ (z3u x (wr.alloc (.cells #[.int .i64 x.kind,.string x.path,.int .i64 x.num,.string x.frm,.string x.dst] 48)));cases hst:z3o x.kind with
   | true =>
    have HP:Hid (z4t x=[]):=hd_ (by unfold z4t;rw[hst];rfl)
    rw[hst] at HSY;clear hst;go_wp2_with fail;refine HSY.out.mono ?_;rintro e w' ⟨rfl,hb⟩;have HX2:=hd_ (HX.out.under hb);clear hb;go_wp2_with fail;go_roundw
    case rel=>exact⟨k+1,v',by omega,by go_num,by rw[HST.out,HP.out,List.append_nil];exact HX2⟩
    case measure=>simp [intOf];omega
   | false =>
    have HP:Hid (z4t x=z4s x):=hd_ (by unfold z4t;rw[hst];rfl)
    rw[hst] at HSY;clear hst;go_wp2_with fail;refine HSY.out.mono ?_;rintro e w' ⟨rfl,hb⟩;have HX2:=hd_ (HX.out.under hb);have HB2:=hd_ ((z0l wr [.int .i64 x.kind,.string x.path,.int .i64 x.num,.string x.frm,.string x.dst] 48).below hb (by simp))
    clear hb;obtain⟨q0,q1,q2,q3,q4⟩:=z3r (x:=x) HB2.out;have HAD:=hd_ (z58 x w0 w' w0.heap.size _ v' HX2.out HLK.out);go_wp2_with fail;refine HAD.out.mono ?_;rintro e w3 ⟨rfl,v3,h3,h4⟩;have HX3:=hd_ h3;clear h3 h4;go_wp2_with fail;go_roundw
    case rel=>exact⟨k+1,v3,by omega,by go_num,by rw[HST.out,HP.out,← List.append_assoc];exact HX3⟩
    case measure=>simp [intOf];omega
  ·have hbx:wr.cell? ⟨w0.heap.size,0,none⟩=some v':=HI.out.box.cell 0;have HT:Hid (r.take k=r):=hd_ (List.take_of_length_le (by omega))
   have HR:=hd_ (HRR.out v' wr (by have:=HI.out;rw[HT.out] at this;exact this))
   go_wp2_with fail;exact HR.out
theorem z4z.tail2 {w:World}{ad:Addr}{c n:Nat}{x:Syn}{r:List Syn}(h:z4z w (.slice (some ad) n c) (x :: r)):
  z4z w (.slice (if c=1 then some ad else some ⟨ad.block,ad.off+5,none⟩) r.length (c - 1)) r:=by
 obtain⟨A,c',e,h1,h2,h3,h4,h5⟩:=id h;injection e with e1 e2 e3
 subst e1 e3;rw[List.length_cons] at h1 h5;refine⟨_,_,rfl,by omega,by omega,by
  rw[List.flatMap_cons,List.length_append,List.length_cons] at h3;have h9:x.cells.length=5:=rfl;omega,?_,fun hr=>?_⟩
 ·intro hn;split at hn <;> cases hn
 obtain⟨ad',e',hb,hc⟩:=h5 (by omega)
 injection e' with e'
 subst e';rw[if_neg (by omega)]
 refine⟨_,rfl,hb,fun j u hj=>?_⟩;have:=hc (j+5) u (by
  rw[List.flatMap_cons,List.getElem?_append_right (by simp [Syn.cells])]
  simpa [Syn.cells] using hj)
 unfold Addr.add at this ⊢
 by_cases h0:j=0
 ·subst h0;simpa using this
 ·simpa [Nat.add_assoc,Nat.add_comm 5 j,h0] using this
def zjc (h:Hav)(hs:List Hav)(ps:List Syn):List Hav:=z4u h.path ps++z4w h (z4v h.path ps)++z4y hs (z4x h (z4v h.path ps))
theorem zjd {h:Hav}{hs:List Hav}{x:Syn}{r:List Syn}(hc:z2u x.path h.path<0):zjc h hs (x :: r)=z4t x++zjc h hs r:=by
 unfold zjc;rw[z4u,z4v,if_pos hc,if_pos hc,List.append_assoc,List.append_assoc,List.append_assoc]
theorem zje {h:Hav}{hs:List Hav}:zjc h hs []=h :: z4y hs []:=rfl
theorem zjf {h:Hav}{hs:List Hav}{x:Syn}{r:List Syn}(hc:¬ z2u x.path h.path<0)(hp:x.path=h.path)(hk:z3o x.kind=true):zjc h hs (x :: r)=h :: z4y hs r:=by
 unfold zjc;rw[z4u,z4v,if_neg hc,if_neg hc,z4w,z4x,if_pos hp,if_pos hp,if_pos hk];rfl
theorem resM_go {h:Hav}{hs:List Hav}{x:Syn}{r:List Syn}(hc:¬ z2u x.path h.path<0)(hp:x.path=h.path)(hk:z3o x.kind=false):zjc h hs (x :: r)=z4s x++z4y hs r:=by
 unfold zjc;rw[z4u,z4v,if_neg hc,if_neg hc,z4w,z4x,if_pos hp,if_pos hp,hk];rfl
theorem zjg {h:Hav}{hs:List Hav}{x:Syn}{r:List Syn}(hc:¬ z2u x.path h.path<0)(hp:¬ x.path=h.path):zjc h hs (x :: r)=h :: z4y hs (x :: r):=by
 unfold zjc;rw[z4u,z4v,if_neg hc,if_neg hc,z4w,z4x,if_neg hp,if_neg hp];rfl
theorem zjh (p:ByteArray)(l:List Syn):(z4u p l).length+(z4v p l).length≤l.length:=by
 induction l with
 | nil=>simp [z4u,z4v]
 | cons x r ih =>
  rw[z4u,z4v];split
  ·have:=zj9 x;rw[List.length_append,List.length_cons];omega
  ·simp
theorem zji (h:Hav)(l:List Syn):(z4w h l).length+(z4x h l).length≤l.length+1:=by
 cases l with
 | nil=>simp [z4w,z4x]
 | cons x r =>
  rw[z4w,z4x];split
  ·have:=zj8 x;split <;> simp <;> omega
  ·simp;omega
theorem zjj:∀(hs:List Hav) (ps:List Syn),(z4y hs ps).length≤hs.length+ps.length
 | [],ps=>by have:=zja ps;rw[z4y];simpa using this
 | h :: hs,ps=>by
  have h1:=zjh h.path ps;have h2:=zji h (z4v h.path ps);have h3:=zjj hs (z4x h (z4v h.path ps));rw[z4y,List.length_append,List.length_append,List.length_cons];omega
theorem zjk {O T L:List Hav}{m:Nat}(h:O++T=L)(hl:L.length≤m)(hm:m+1≤1000000):(O.length+1) * 40≤140737488355328:=by
 have:=congrArg List.length h;rw[List.length_append] at this;exact room40 (by omega)
section
variable {u0 u1 u2 u3 u4 u5 u6 u7 u8 u9 gn gt gu gx gy gz gA gC gD gE gF gG gH gI gJ gK gL gM gN gO gP gQ gR gT gV gW gX gY gZ i6 i7 i8 ia ib ic ie ig ii ij ik il im io ip iq ir iu iv iw ix iy iz iA iB iC iD iE iF iG iH iI iJ iK iL iM iN iO iP iQ iR iS iT iU iV iW iX iY iZ j0 j1 j2 j5 j6 j7 j8 j9 jb jd je jf bw bz bA bB bD bE bF bG bH bI bJ bK bL bM bN bO bP bQ bT bU bV bW bX bY bZ ca cj ck cn cx cy cz cA cB cD cE cG cH cI cJ cM cN cO cP cQ cT cU cW cZ da db dc dd de df dg dh di dj dm du dw dz dA dB dC dD dE dF dG dH dI dJ dK dL dM dN dO dP dQ dR dS dT dU dV dW dX dY dZ ec : Value}
theorem chR14 (ops:Array Oper)(hops:Tryz.f59.body.bind (zci 14)=some ops)(Q:Exit→Act→World→Prop)(V:World)(gw gp k n cr:Nat)(Ar:Option Addr)(dr:Value)(p:ByteArray)(v:Rev)(bo:Bool)
  (hC:∀ w',Below V.heap.size V w'→w'.cell? ⟨gw,0,none⟩=some (.slice Ar n cr)∧w'.cell? ⟨gw,1,none⟩=some dr∧w'.cell? ⟨gp,k,none⟩=some (.string p)) (hk:(k:Int)<6)
  (hL:∀ X,Below V.heap.size V X→Calls Tryz.prog 90 #[.agg #[.slice Ar n cr,dr],.string p] X fun e w'=>e=.returned (.tuple #[.agg #[.string v.path,.int .i64 v.num,.int .i64 v.chg,.int .i64 v.act,.int .i64 v.ty.base,.bool v.ty.k,.bool v.ty.l,.bool v.ty.x,.int .u64 v.sum,.int .i64 v.size,.string v.frm,.int .i64 v.fnum],.bool bo])∧Below X.heap.size X w')
  (hQ:∀(fS fT fU fV fW fX fY fZ ga gb gf gg tb:Value) (g:Nat) (w':World),Blk w' g 66 [.string v.path,.int .i64 v.num,.int .i64 v.chg,.int .i64 v.act,.int .i64 v.ty.base,.bool v.ty.k,.bool v.ty.l,.bool v.ty.x,.int .u64 v.sum,.int .i64 v.size,.string v.frm,.int .i64 v.fnum]→V.heap.size≤g→Below V.heap.size V w'→Q .normal ⟨#[.pointer (some ⟨gw,0,none⟩),u1,u2,u3,u4,u5,u6,u7,.slice (some ⟨gp,0,none⟩) 6 6,u9,gn,gt,gu,gx,gy,.int .i64 k,gA,gC,.pointer (some ⟨g,0,none⟩),tb,gF,gG,gH,gI,gJ,gK,gL,gM,gN,gO,gP,gQ,gR,gT,gV,gW,gX,gY,gZ,i6,i7,i8,ia,ib,ic,ie,ig,ii,ij,ik,il,im,io,ip,iq,ir,iu,iv,iw,ix,iy,iz,iA,iB,iC,iD,iE,iF,iG,iH,iI,iJ,iK,iL,iM,iN,iO,iP,iQ,iR,iS,iT,iU,iV,fS,fT,fU,fV,fW,fX,fY,fZ,ga,gb,gf,gg,jb,jd,je,jf,bw,bz,bA,bB,bD,bE,bF,bG,bH,bI,bJ,bK,bL,bM,bN,bO,bP,bQ,bT,bU,bV,bW,bX,bY,bZ,ca,cj,ck,cn,cx,cy,cz,cA,cB,cD,cE,cG,cH,cI,cJ,cM,cN,cO,cP,cQ,cT,cU,cW,cZ,da,db,dc,dd,de,df,dg,dh,di,dj,dm,du,dw,dz,dA,dB,dC,dD,dE,dF,dG,dH,dI,dJ,dK,dL,dM,dN,dO,dP,dQ,dR,dS,dT,dU,dV,dW,dX,dY,dZ,ec],[]⟩ w'):
  (Code.region 14 ops true).wp Tryz.prog Q ⟨#[.pointer (some ⟨gw,0,none⟩),u1,u2,u3,u4,u5,u6,u7,.slice (some ⟨gp,0,none⟩) 6 6,u9,gn,gt,gu,gx,gy,.int .i64 k,gA,gC,gD,gE,gF,gG,gH,gI,gJ,gK,gL,gM,gN,gO,gP,gQ,gR,gT,gV,gW,gX,gY,gZ,i6,i7,i8,ia,ib,ic,ie,ig,ii,ij,ik,il,im,io,ip,iq,ir,iu,iv,iw,ix,iy,iz,iA,iB,iC,iD,iE,iF,iG,iH,iI,iJ,iK,iL,iM,iN,iO,iP,iQ,iR,iS,iT,iU,iV,iW,iX,iY,iZ,j0,j1,j2,j5,j6,j7,j8,j9,jb,jd,je,jf,bw,bz,bA,bB,bD,bE,bF,bG,bH,bI,bJ,bK,bL,bM,bN,bO,bP,bQ,bT,bU,bV,bW,bX,bY,bZ,ca,cj,ck,cn,cx,cy,cz,cA,cB,cD,cE,cG,cH,cI,cJ,cM,cN,cO,cP,cQ,cT,cU,cW,cZ,da,db,dc,dd,de,df,dg,dh,di,dj,dm,du,dw,dz,dA,dB,dC,dD,dE,dF,dG,dH,dI,dJ,dK,dL,dM,dN,dO,dP,dQ,dR,dS,dT,dU,dV,dW,dX,dY,dZ,ec],[]⟩ V:=by
 simp only[Tryz.f59,Option.bind_some,zci] at hops
 simp at hops
 subst hops;have HQ:=hd_ hQ;have HLZ:=hd_ hL;have hVA:Below V.heap.size V (V.alloc (.cells #[.string ⟨#[]⟩,.int .i64 0,.int .i64 0,.int .i64 0,.int .i64 0,.bool false,.bool false,.bool false,.int .u64 0,.int .i64 0,.string ⟨#[]⟩,.int .i64 0] 66)).drew:=((Below.refl _ _).alloc (Nat.le_refl _) _).drew;obtain⟨x0,x1,x2⟩:=hC V (Below.refl _ _);obtain⟨y0,y1,y2⟩:=hC _ hVA;clear hVA hC hQ hL;refine wp_region_noPanic ?_;go_region_law (first
  | (go_simp;go_at_call 90;refine (HLZ.out _ (by repeat (first | exact Below.refl _ _ | refine Below.drew ?_ | refine zcf ?_ _))).mono ?_;rintro e w8 ⟨rfl,hX8⟩;have hS8:Below V.heap.size V w8:=(by repeat (first | exact Below.refl _ _ | refine Below.drew ?_ | refine zcf ?_ _):Below V.heap.size V _).trans (hX8.mono (by simp));(try (have hblk:=Blk.below (Blk.drew' (z0l V [.string ⟨#[]⟩,.int .i64 0,.int .i64 0,.int .i64 0,.int .i64 0,.bool false,.bool false,.bool false,.int .u64 0,.int .i64 0,.string ⟨#[]⟩,.int .i64 0] 66)) hX8 (by simp);obtain⟨p0,p1,p2,p3,p4,p5,p6,p7,p8,p9,p10,p11⟩:=z7z hblk;obtain⟨r0,r1,r2,r3,r4,r5,r6,r7,r8,r9,r10,r11⟩:=zdz hblk))))
 all_goals refine NoPanic.normal ?_
 all_goals first
  | exact HQ.out _ _ _ _ _ _ _ _ _ _ _ _ _ _ _ (ze0 hblk v) (Nat.le_refl _) (ze1 hS8 (Nat.le_refl _) v)
  | exact HQ.out _ _ _ _ _ _ _ _ _ _ _ _ _ _ _ (z0l w8 [.string v.path,.int .i64 v.num,.int .i64 v.chg,.int .i64 v.act,.int .i64 v.ty.base,.bool v.ty.k,.bool v.ty.l,.bool v.ty.x,.int .u64 v.sum,.int .i64 v.size,.string v.frm,.int .i64 v.fnum] 66) hS8.size (hS8.alloc hS8.size _)
theorem chR22 (ops:Array Oper)(hops:Tryz.f59.body.bind (zci 22)=some ops)(Q:Exit→Act→World→Prop)(V:World)(gw gp k n cr:Nat)(Ar:Option Addr)(dr:Value)(p:ByteArray)(v:Rev)(bo:Bool)
  (hC:∀ w',Below V.heap.size V w'→w'.cell? ⟨gw,0,none⟩=some (.slice Ar n cr)∧w'.cell? ⟨gw,1,none⟩=some dr∧w'.cell? ⟨gp,k,none⟩=some (.string p)) (hk:(k:Int)<6)
  (hL:∀ X,Below V.heap.size V X→Calls Tryz.prog 90 #[.agg #[.slice Ar n cr,dr],.string p] X fun e w'=>e=.returned (.tuple #[.agg #[.string v.path,.int .i64 v.num,.int .i64 v.chg,.int .i64 v.act,.int .i64 v.ty.base,.bool v.ty.k,.bool v.ty.l,.bool v.ty.x,.int .u64 v.sum,.int .i64 v.size,.string v.frm,.int .i64 v.fnum],.bool bo])∧Below X.heap.size X w')
  (hQ:∀(aF aG aH aI aJ aK aL aM aN aO aP aQ tb:Value) (g:Nat) (w':World),Blk w' g 66 [.string v.path,.int .i64 v.num,.int .i64 v.chg,.int .i64 v.act,.int .i64 v.ty.base,.bool v.ty.k,.bool v.ty.l,.bool v.ty.x,.int .u64 v.sum,.int .i64 v.size,.string v.frm,.int .i64 v.fnum]→V.heap.size≤g→Below V.heap.size V w'→Q .normal ⟨#[.pointer (some ⟨gw,0,none⟩),u1,u2,u3,u4,u5,u6,u7,.slice (some ⟨gp,0,none⟩) 6 6,.int .i64 k,gn,gt,gu,gx,gy,gz,gA,gC,gD,gE,gF,.pointer (some ⟨g,0,none⟩),tb,gI,gJ,gK,gL,gM,gN,gO,gP,gQ,gR,gT,gV,gW,gX,gY,gZ,i6,i7,i8,ia,ib,ic,ie,ig,ii,ij,ik,il,im,io,ip,iq,ir,iu,iv,iw,ix,iy,iz,iA,iB,iC,iD,iE,iF,iG,iH,iI,iJ,iK,iL,iM,iN,iO,iP,iQ,iR,iS,iT,iU,iV,iW,iX,iY,iZ,j0,j1,j2,j5,j6,j7,j8,j9,jb,jd,je,jf,bw,bz,bA,bB,bD,bE,bF,bG,bH,bI,bJ,bK,bL,bM,bN,bO,bP,bQ,bT,bU,bV,bW,bX,bY,bZ,ca,cj,ck,aF,aG,aH,aI,aJ,aK,aL,aM,aN,aO,aP,aQ,cM,cN,cO,cP,cQ,cT,cU,cW,cZ,da,db,dc,dd,de,df,dg,dh,di,dj,dm,du,dw,dz,dA,dB,dC,dD,dE,dF,dG,dH,dI,dJ,dK,dL,dM,dN,dO,dP,dQ,dR,dS,dT,dU,dV,dW,dX,dY,dZ,ec],[]⟩ w'):
  (Code.region 22 ops true).wp Tryz.prog Q ⟨#[.pointer (some ⟨gw,0,none⟩),u1,u2,u3,u4,u5,u6,u7,.slice (some ⟨gp,0,none⟩) 6 6,.int .i64 k,gn,gt,gu,gx,gy,gz,gA,gC,gD,gE,gF,gG,gH,gI,gJ,gK,gL,gM,gN,gO,gP,gQ,gR,gT,gV,gW,gX,gY,gZ,i6,i7,i8,ia,ib,ic,ie,ig,ii,ij,ik,il,im,io,ip,iq,ir,iu,iv,iw,ix,iy,iz,iA,iB,iC,iD,iE,iF,iG,iH,iI,iJ,iK,iL,iM,iN,iO,iP,iQ,iR,iS,iT,iU,iV,iW,iX,iY,iZ,j0,j1,j2,j5,j6,j7,j8,j9,jb,jd,je,jf,bw,bz,bA,bB,bD,bE,bF,bG,bH,bI,bJ,bK,bL,bM,bN,bO,bP,bQ,bT,bU,bV,bW,bX,bY,bZ,ca,cj,ck,cn,cx,cy,cz,cA,cB,cD,cE,cG,cH,cI,cJ,cM,cN,cO,cP,cQ,cT,cU,cW,cZ,da,db,dc,dd,de,df,dg,dh,di,dj,dm,du,dw,dz,dA,dB,dC,dD,dE,dF,dG,dH,dI,dJ,dK,dL,dM,dN,dO,dP,dQ,dR,dS,dT,dU,dV,dW,dX,dY,dZ,ec],[]⟩ V:=by
 simp only[Tryz.f59,Option.bind_some,zci] at hops
 simp at hops
 subst hops;have HQ:=hd_ hQ;have HLZ:=hd_ hL;have hVA:Below V.heap.size V (V.alloc (.cells #[.string ⟨#[]⟩,.int .i64 0,.int .i64 0,.int .i64 0,.int .i64 0,.bool false,.bool false,.bool false,.int .u64 0,.int .i64 0,.string ⟨#[]⟩,.int .i64 0] 66)).drew:=((Below.refl _ _).alloc (Nat.le_refl _) _).drew;obtain⟨x0,x1,x2⟩:=hC V (Below.refl _ _);obtain⟨y0,y1,y2⟩:=hC _ hVA;clear hVA hC hQ hL;refine wp_region_noPanic ?_;go_region_law (first
  | (go_simp;go_at_call 90;refine (HLZ.out _ (by repeat (first | exact Below.refl _ _ | refine Below.drew ?_ | refine zcf ?_ _))).mono ?_;rintro e w8 ⟨rfl,hX8⟩;have hS8:Below V.heap.size V w8:=(by repeat (first | exact Below.refl _ _ | refine Below.drew ?_ | refine zcf ?_ _):Below V.heap.size V _).trans (hX8.mono (by simp));(try (have hblk:=Blk.below (Blk.drew' (z0l V [.string ⟨#[]⟩,.int .i64 0,.int .i64 0,.int .i64 0,.int .i64 0,.bool false,.bool false,.bool false,.int .u64 0,.int .i64 0,.string ⟨#[]⟩,.int .i64 0] 66)) hX8 (by simp);obtain⟨p0,p1,p2,p3,p4,p5,p6,p7,p8,p9,p10,p11⟩:=z7z hblk;obtain⟨r0,r1,r2,r3,r4,r5,r6,r7,r8,r9,r10,r11⟩:=zdz hblk))))
 all_goals refine NoPanic.normal ?_
 all_goals first
  | exact HQ.out _ _ _ _ _ _ _ _ _ _ _ _ _ _ _ (ze0 hblk v) (Nat.le_refl _) (ze1 hS8 (Nat.le_refl _) v)
  | exact HQ.out _ _ _ _ _ _ _ _ _ _ _ _ _ _ _ (z0l w8 [.string v.path,.int .i64 v.num,.int .i64 v.chg,.int .i64 v.act,.int .i64 v.ty.base,.bool v.ty.k,.bool v.ty.l,.bool v.ty.x,.int .u64 v.sum,.int .i64 v.size,.string v.frm,.int .i64 v.fnum] 66) hS8.size (hS8.alloc hS8.size _)
end
end Go.Proofs.YtegeboijhifmcaaGreatDoor
