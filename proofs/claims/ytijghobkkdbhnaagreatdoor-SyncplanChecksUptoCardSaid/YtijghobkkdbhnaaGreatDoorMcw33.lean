/- A part. -/
import Derived.Test.YtijghobkkdbhnaaGreatDoorMcw30
import Derived.Test.YtijghobkkdbhnaaGreatDoorMcw31
set_option linter.unusedVariables false
set_option linter.unusedSimpArgs false
set_option maxHeartbeats 8000000
set_option maxRecDepth 100000
namespace Go.Proofs.YtijghobkkdbhnaaGreatDoor
open Go.Proofs.Tryz
open Go.RowKit
theorem weT18 (T:Code)(hT:Tryz.f157.body.bind (zhg 18)=some T)(R:Ending→World→Prop)(revs:List Rev)(c:Chg)(x:Edt)(Ar Ae Ac:Option Addr)(dr:Value)(cr ce cc g3 g4 g7:Nat)(w4:World)
  (hR:z4c w4 (.slice Ar revs.length cr) revs) (hl:revs.length≤100000) (hbs:0≤x.base∧x.base≤1000000)
  (hD:Blk w4 g3 27 [.slice Ar revs.length cr,dr]) (hC:Blk w4 g4 105 [.int .i64 c.num,.string c.client,.string c.text,.slice Ae c.edits.length ce,.slice Ac c.recs.length cc]) (hX:Blk w4 g7 100 [.string x.path,.int .i64 x.act,.int .i64 x.ty.base,.bool x.ty.k,.bool x.ty.l,.bool x.ty.x,.int .u64 x.sum,.int .i64 x.size,.int .i64 x.base,.string x.frm,.int .i64 x.fnum,.int .i64 x.fence])
  (hRR:∀(n:Int) (w':World),zB w4 w'→R (.returned (.int .i64 n)) w')
  (u0 u1 u2 u5 u6 u8 u9 gA gC gD gE gF gG gH gI gJ gK gL gM gN gO gP gQ gR gT gV gW gX gY gZ i6 i7 i8 ia ib ic ie ig ii ij ik il im io ip iq ir iu iv iw ix iy iz iA iB iC iD iE iF iG iH iI iJ iK iL iM iN iO iP iQ iR iS iT iU iV iW iX iY iZ j0 j1 j2 j5 j6 j7 j8 j9 jb jd jf jg jh ji jj jk jl jm bE bF bG bH bI bJ bK bL bM bN bO bP bQ bT bU bV bW bX bY bZ cj ck cn cx cy cz cA cB cD cG cH cI cJ cM cN cO cP cQ cR cT cU cW cX cY cZ da dc dd:Value):
  T.wp prog (bodyPost prog Tryz.f157 R) ⟨#[u0,u1,u2,.pointer (some ⟨g3,0,none⟩),.pointer (some ⟨g4,0,none⟩),u5,u6,.pointer (some ⟨g7,0,none⟩),u8,u9,gA,gC,gD,gE,gF,gG,gH,gI,gJ,gK,gL,gM,gN,gO,gP,gQ,gR,gT,gV,gW,gX,gY,gZ,i6,i7,i8,ia,ib,ic,ie,ig,ii,ij,ik,il,im,io,ip,iq,ir,iu,iv,iw,ix,iy,iz,iA,iB,iC,iD,iE,iF,iG,iH,iI,iJ,iK,iL,iM,iN,iO,iP,iQ,iR,iS,iT,iU,iV,iW,iX,iY,iZ,j0,j1,j2,j5,j6,j7,j8,j9,jb,jd,jf,jg,jh,ji,jj,jk,jl,jm,bE,bF,bG,bH,bI,bJ,bK,bL,bM,bN,bO,bP,bQ,bT,bU,bV,bW,bX,bY,bZ,cj,ck,cn,cx,cy,cz,cA,cB,cD,cG,cH,cI,cJ,cM,cN,cO,cP,cQ,cR,cT,cU,cW,cX,cY,cZ,da,dc,dd],[]⟩ w4:=by
 simp only[Tryz.f157,Option.bind_some,zhg,zhf] at hT
 simp at hT
 subst hT;have HRR:=hd_ hRR;have HR:=hd_ hR;have HBS:=hd_ hbs;have HX4:=hd_ hX;have HD4:=hd_ hD;have HC4:=hd_ hC;have HLAST:=hd_ (fun p X (hX:zB w4 X)=>zgm revs p (.slice Ar revs.length cr) dr X (HR.out.below hX) (by omega))
 clear hRR hR hbs hD hC hX;obtain⟨c0,c1,c2,c3,c4,c5,c6,c7,c8,c9,c10,c11⟩:=z81 HX4.out;have HCK:=hd_ (fun X=>zho x.ty.base x.ty.k x.ty.l x.ty.x X);cases htk:z2o x.ty.base x.ty.k x.ty.x with
 | false =>
  rw[htk] at HCK;clear htk;go_wp2_with fail;refine (HCK.out _).mono ?_;rintro e w5 ⟨rfl,hb5⟩;have HB5:=hd_ hb5;clear hb5;go_wp2_with fail;exact HRR.out _ _ (HB5.out)
 | true =>
  rw[htk] at HCK;clear htk;go_wp2_with fail;refine (HCK.out _).mono ?_;rintro e w5 ⟨rfl,hb5⟩;have HW5:=hd_ hb5;have HX5:=hd_ (HX4.out.below hb5 HX4.out.lt);have HD5:=hd_ (HD4.out.below hb5 HD4.out.lt);have HC5:=hd_ (HC4.out.below hb5 HC4.out.lt);clear hb5 c0 c1 c2 c3 c4 c5 c6 c7 c8 c9 c10 c11;obtain⟨c0,c1,c2,c3,c4,c5,c6,c7,c8,c9,c10,c11⟩:=z81 HX5.out;by_cases hz:x.size<0
  ·have q:decide (x.size<0)=true:=by simp;omega
   clear hz;go_wp2_with fail;exact HRR.out _ _ (HW5.out)
  ·have q:decide (x.size<0)=false:=by simp;omega
   clear hz;obtain⟨d0,d1,-,-⟩:=box2 HD5.out;have HL2:=hd_ (HLAST.out x.path w5 HW5.out);go_wp2_with fail;refine HL2.out.mono ?_;rintro e w6 ⟨rfl,hb6⟩;generalize zdv (zgd revs x.path)=r;generalize (zgd revs x.path).isSome=okb;have hY:=z0l w6 [.string r.path,.int .i64 r.num,.int .i64 r.chg,.int .i64 r.act,.int .i64 r.ty.base,.bool r.ty.k,.bool r.ty.l,.bool r.ty.x,.int .u64 r.sum,.int .i64 r.size,.string r.frm,.int .i64 r.fnum] 90;have hA6:zB w5 (w6.alloc (.cells #[.string r.path,.int .i64 r.num,.int .i64 r.chg,.int .i64 r.act,.int .i64 r.ty.base,.bool r.ty.k,.bool r.ty.l,.bool r.ty.x,.int .u64 r.sum,.int .i64 r.size,.string r.frm,.int .i64 r.fnum] 90)):=z0u hb6 _;clear hb6 c0 c1 c2 c3 c4 c5 c6 c7 c8 c9 c10 c11 d0 d1;go_upto_region 21 with fail;generalize w6.alloc (.cells #[.string r.path,.int .i64 r.num,.int .i64 r.chg,.int .i64 r.act,.int .i64 r.ty.base,.bool r.ty.k,.bool r.ty.l,.bool r.ty.x,.int .u64 r.sum,.int .i64 r.size,.string r.frm,.int .i64 r.fnum] 90)=w7 at hY hA6 ⊢;generalize w6.heap.size=g14 at hY ⊢;have HX7:=hd_ (HX5.out.below hA6 HX5.out.lt);have HC7:=hd_ (HC5.out.below hA6 HC5.out.lt);have HY:=hd_ hY;have HW7:=hd_ (z0r HW5.out hA6);clear hY hA6;obtain⟨c0,c1,c2,c3,c4,c5,c6,c7,c8,c9,c10,c11⟩:=z81 HX7.out;obtain⟨k0,k1,k2,k3,k4⟩:=zhi HC7.out;have HMD:=hd_ (zhk c.num c.client c.text Ae Ac c.edits.length c.recs.length ce cc x w7 HBS.out);go_wp2_with fail;refine HMD.out.mono ?_;rintro e w8 ⟨rfl,hb8⟩;have HB8:=hd_ hb8;clear hb8 c0 c1 c2 c3 c4 c5 c6 c7 c8 c9 c10 c11 k0 k1 k2 k3 k4;have HGO:=hd_ (zhh (zhj c.num x) w8);go_wp2_with fail;refine HGO.out.mono ?_;rintro e w9 ⟨rfl,hb9⟩;have HB9:=hd_ (z0r HB8.out hb9);clear hb9;obtain⟨c0,c1,c2,c3,c4,c5,c6,c7,c8,c9,c10,c11⟩:=z81 (HX7.out.below HB9.out HX7.out.lt);obtain⟨b0,b1,b2,b3,b4,b5,b6,b7,b8,b9,b10,b11⟩:=z81 (HY.out.below HB9.out HY.out.lt);have hact:(zhj c.num x).act=x.act:=rfl;rw[hact];clear hact;have hty:=zhc x.ty r.ty;have hcn:=zhd x.sum x.size 0 0;generalize (decide (x.sum=0) && decide (x.size=0))=bc at hcn
   generalize decide (x.ty=r.ty)=bt at hty;cases hlv:z30 x.act with
   | true =>
    clear hlv;go_wp2_with fail;exact HRR.out _ _ (z0r HW7.out HB9.out)
   | false =>
    clear hlv;cases bt with
    | false =>
     go_wp2_with fail;exact HRR.out _ _ (z0r HW7.out HB9.out)
    | true =>
     cases bc with
     | false =>
      go_wp2_with fail;exact HRR.out _ _ (z0r HW7.out HB9.out)
     | true =>
      go_wp2_with fail;exact HRR.out _ _ (z0r HW7.out HB9.out)
open Go.Sort (grow)
def zig:Option Syn→Syn→Bool
 | none,_=>false
 | some q,x=>decide (0≤z2z q.path x.path)
def zih (f:ByteArray→Option ByteArray):Option Syn→List Syn→Bool
 | _,[]=>false
 | p,x :: r=>if (!zi5 x ((f x.path).getD z2q) || zig p x)=true then true else zih f (some x) r
def zii (hs:List Hav):ByteArray→Option ByteArray:=hs.foldl (fun f h=>upd f h.path h.loc) (fun _=>none)
theorem zij (l:List Hav)(h:Hav):zii (l++[h])=upd (zii l) h.path h.loc:=by unfold zii;rw[List.foldl_append];rfl
def zik (hs:List Hav)(ss:List Syn):Int:=
 if z4m hs=0 then (if zih (zii hs) none ss=true then 351 else if z4m (z56 hs ss)=0 then 0 else 351) else 350
theorem zil {hs:List Hav}{ss:List Syn}(h:¬ z4m hs=0):zik hs ss=350:=if_neg h
theorem zim {hs:List Hav}{ss:List Syn}(h:z4m hs=0):zik hs ss=if zih (zii hs) none ss=true then 351 else if z4m (z56 hs ss)=0 then 0 else 351:=if_pos h
theorem zin (o:Option ByteArray):z2m Value.string (.string z2q) false o=.string (o.getD z2q):=by cases o <;> rfl
def zio (l:List Syn):Option Syn:=l.getLast?
theorem ziq (l:List Syn)(x:Syn):zio (l++[x])=some x:=by unfold zio;simp
theorem zir (hs:List Hav)(ss:List Syn)(hv pv:Value)(w:World)(hH:z4h w hv hs)(hS:z57 w pv ss)
  (hz:∀ x∈hs,x.path.size≤2000000∧x.loc.size≤2000000) (hz2:∀ x∈ss,x.path.size≤2000000∧x.dst.size≤2000000) (hzr:∀ x∈z56 hs ss,x.path.size≤2000000∧x.loc.size≤2000000) (hl:hs.length+ss.length≤1000000)
  (hres:∀ X,zB w X→Calls prog 48 #[hv,pv] X fun e w'=>∃ v,e=.returned v∧z4h w' v (z56 hs ss)∧zB X w'):
  Calls prog 20 #[hv,pv] w fun e w'=>e=.returned (.int .i64 (zik hs ss))∧zB w w':=by
 have HC0:=hd_ (fun X (hX:zB w X)=>z4u hs hv X (hH.below hX) (fun x hx=>⟨by have:=(hz x hx).1;omega,by have:=(hz x hx).2;omega⟩))
 have HC1:=hd_ (fun X v (hv:z4h X v (z56 hs ss))=>z4u (z56 hs ss) v X hv (fun x hx=>⟨by have:=(hzr x hx).1;omega,by have:=(hzr x hx).2;omega⟩))
 have HRES:=hd_ hres;have HH:=hd_ hH;have HS:=hd_ hS;have HZ2:=hd_ hz2;obtain⟨Ah,ch,rfl,-⟩:=id hH;obtain⟨A1,c1,rfl,-⟩:=id hS;have hmm:=@run_makeMap prog;clear hres hH hS hz hz2 hzr;by_cases he:z4m hs=0
 case neg =>
  have HE:=hd_ (zil (ss:=ss) he);have HC:=hd_ (HC0.out w (Below.refl _ _));generalize z4m hs=ce at he HC;have n0:(ce == 0)=false:=beq_eq_false_iff_ne.2 he;have n1:(ce != 0)=true:=by rw[bne,n0];rfl
  clear he;go_enter func20,ntmps20;go_wp2_with fail;refine HC.out.mono ?_;rintro e w1 ⟨rfl,hb1⟩;have HB1:=hd_ hb1;clear hb1;go_wp2_with fail;go_ret;exact⟨z3a HE.out.symm,HB1.out⟩
 case pos =>
  have HE:=hd_ (zim (ss:=ss) he);rw[he] at HC0;clear he;have HC:=hd_ (HC0.out w (Below.refl _ _));go_enter func20,ntmps20;go_wp2_with fail;refine HC.out.mono ?_;rintro e w1 ⟨rfl,hb1⟩;have HM1:=hd_ (z2k.new Value.string Value.string w1);have HB2:=hd_ (hb1.alloc hb1.size (.map #[] 0));have HW:=hd_ hb1.size;clear hb1;go_wp2_with fail;go_loopw [16] (fun i wr=>∃ k:Nat,k≤hs.length∧i=.int .i64 k∧Hid (zB w wr)∧Hid (z2k Value.string Value.string wr w1.heap.size (zii (hs.take k)))) (fun i _=>hs.length - (intOf i).toNat)
  case atStart=>exact⟨0,Nat.zero_le _,rfl,HB2,HM1⟩
  case round =>
   obtain⟨k,hk,rfl,HB,HM⟩:=hrel;by_cases hlt:k<hs.length
   ·obtain⟨ad,rfl,hab,y0,y1,y2⟩:=z4h.at_ (HH.out.below HB.out) hlt;have HT:=hd_ (show hs.take (k+1)=hs.take k++[hs[k]] from List.take_succ_eq_append_getElem hlt);generalize hs[k]=h at y0 y1 y2 HT;have HB3:=hd_ (HB.out.alloc HB.out.size (.cells #[.string h.path,.int .i64 h.num,.string h.loc] 96));have HM3:=hd_ (HM.out.alloc (.cells #[.string h.path,.int .i64 h.num,.string h.loc] 96));obtain⟨z0,z1,z2⟩:=z3x (x:=h) (z0l wr [.string h.path,.int .i64 h.num,.string h.loc] 96);obtain⟨w3,hup,hM4,hg4,-⟩:=z2k.update (w:=wr.alloc (.cells #[.string h.path,.int .i64 h.num,.string h.loc] 96)) HM3.out (z2i underlying9) underlying116 h.path h.loc;have HN:Hid (zB w w3∧z2k Value.string Value.string w3 w1.heap.size (zii (hs.take (k+1)))):=hd_ ⟨HB3.out.trans ⟨hg4.os,hg4.tape,hg4.output,hg4.size,fun q hq=>hg4.block q (Nat.lt_of_lt_of_le hq HB3.out.size) (by intro e;injection e with e;have:=HW.out;omega)⟩,by rw[HT.out,zij];exact hM4⟩
    have HLT:=hd_ hlt;clear hM4 hg4;go_wp2_with fail;go_roundw
    case rel=>exact⟨k+1,by omega,by go_num,hd_ HN.out.1,hd_ HN.out.2⟩
    case measure=>simp [intOf];omega
   ·have hke:k=hs.length:=by omega
    subst hke;rw[List.take_length] at HM;have hge:¬((hs.length:Int)<(hs.length:Int)):=by omega
    go_wp2_with fail;go_loopw [28] (fun i wr=>∃ k:Nat,k≤ss.length∧i=.int .i64 k∧Hid (zB w wr)∧Hid (z2k Value.string Value.string wr w1.heap.size (zii hs))∧Hid (zih (zii hs) none ss=zih (zii hs) (zio (ss.take k)) (ss.drop k))) (fun i _=>ss.length - (intOf i).toNat)
    case atStart=>exact⟨0,Nat.zero_le _,rfl,HB,HM,hd_ rfl⟩
    case round =>
     obtain⟨k,hk,rfl,HB,HM,HV⟩:=hrel;by_cases hlt:k<ss.length
     ·have hprev:k=0∨∃(j:Nat) (hj:j<ss.length),k=j+1∧zio (ss.take k)=some ss[j]:=by
       cases k with
       | zero=>exact .inl rfl
       | succ j=>exact .inr ⟨j,by omega,rfl,by rw[List.take_succ_eq_append_getElem (by omega),ziq]⟩
      obtain⟨ad,rfl,hab,y0,y1,y2,y3,y4⟩:=z57.at_ (HS.out.below HB.out) hlt;have hxs:=HZ2.out ss[k] (List.getElem_mem _);have HT:=hd_ (show ss.take (k+1)=ss.take k++[ss[k]] from List.take_succ_eq_append_getElem hlt);rw[List.drop_eq_getElem_cons hlt] at HV;generalize ss[k]=x at y0 y1 y2 y3 y4 hxs HT HV;have HB3:=hd_ (HB.out.alloc HB.out.size (.cells #[.int .i64 x.kind,.string x.path,.int .i64 x.num,.string x.frm,.string x.dst] 50));have HM3:=hd_ (HM.out.alloc (.cells #[.int .i64 x.kind,.string x.path,.int .i64 x.num,.string x.frm,.string x.dst] 50));obtain⟨z0,z1,z2,z3,z4⟩:=z3w (x:=x) (z0l wr [.int .i64 x.kind,.string x.path,.int .i64 x.num,.string x.frm,.string x.dst] 50);have cL:∀ d os,(Instr.lookup 116 (.map (some w1.heap.size)) (.string x.path) false).run prog (grow (redrawn (wr.alloc (.cells #[.int .i64 x.kind,.string x.path,.int .i64 x.num,.string x.frm,.string x.dst] 50)) d) os)=.ok (.string ((zii hs x.path).getD z2q)) (grow (redrawn (wr.alloc (.cells #[.int .i64 x.kind,.string x.path,.int .i64 x.num,.string x.frm,.string x.dst] 50)) d) os):=fun d os=>by
       have hh:=z2k.lookup (z2k.below HM3.out (below_regrown _ d os)) (z2i underlying9) underlying116 (z:=.string z2q) (by rfl) x.path false
       rw[zin] at hh;exact hh
      have HF:=hd_ (fun X=>zi7 x ((zii hs x.path).getD z2q) X (by omega) (by omega))
      have m0:=cell_regrown z0;have m1:=cell_regrown z1;have m2:=cell_regrown z2;have m3:=cell_regrown z3;have m4:=cell_regrown z4;generalize hlo:(zii hs x.path).getD z2q=lo at cL HF;cases hok:zi5 x lo
      ·have HO:Hid (zik hs ss=351):=hd_ (by rw[HE.out,HV.out,zih,hlo,hok];rfl)
       rw[hok] at HF;have cF:∀ d os,Calls prog 54 #[.agg #[.int .i64 x.kind,.string x.path,.int .i64 x.num,.string x.frm,.string x.dst],.string lo] (grow (redrawn (wr.alloc (.cells #[.int .i64 x.kind,.string x.path,.int .i64 x.num,.string x.frm,.string x.dst] 50)) d) os) fun e w''=>e=.returned (.bool false)∧∃ p:Regrown,w''=grow (redrawn (wr.alloc (.cells #[.int .i64 x.kind,.string x.path,.int .i64 x.num,.string x.frm,.string x.dst] 50)) p.d) p.os:=fun d os=>Calls.regrown_of (by have hh:=HF.out (grow (redrawn (wr.alloc (.cells #[.int .i64 x.kind,.string x.path,.int .i64 x.num,.string x.frm,.string x.dst] 50)) d) os);exact hh)
       clear hok hprev hlo;go_wp2_with fail;refine wp_region_quiet_below (by kernel_rfl) (by kernel_rfl) ?_
       repeat (first | go_big_quiet_step (exact cF _ _) | quiet_step (exact cF _ _))
       refine wpQuiet_nil ?_;intro _ hw9;obtain⟨⟨dq,osq⟩,hw9⟩:=hw9;subst hw9;have HB4:=hd_ (z0q HB3.out HB3.out.size (below_regrown _ dq osq));have HM4:=hd_ (z2k.below HM3.out (below_regrown _ dq osq));generalize grow (redrawn (wr.alloc (.cells #[.int .i64 x.kind,.string x.path,.int .i64 x.num,.string x.frm,.string x.dst] 50)) dq) osq=W5 at HB4 HM4 ⊢;go_wp2_with fail;go_ret;exact⟨z3a HO.out.symm,HB4.out⟩
      ·rw[hok] at HF;have cF:∀ d os,Calls prog 54 #[.agg #[.int .i64 x.kind,.string x.path,.int .i64 x.num,.string x.frm,.string x.dst],.string lo] (grow (redrawn (wr.alloc (.cells #[.int .i64 x.kind,.string x.path,.int .i64 x.num,.string x.frm,.string x.dst] 50)) d) os) fun e w''=>e=.returned (.bool true)∧∃ p:Regrown,w''=grow (redrawn (wr.alloc (.cells #[.int .i64 x.kind,.string x.path,.int .i64 x.num,.string x.frm,.string x.dst] 50)) p.d) p.os:=fun d os=>Calls.regrown_of (by have hh:=HF.out (grow (redrawn (wr.alloc (.cells #[.int .i64 x.kind,.string x.path,.int .i64 x.num,.string x.frm,.string x.dst] 50)) d) os);exact hh)
       rcases hprev with h0 | ⟨j,hj,hkj,hla⟩
       ·have HO:Hid (zih (zii hs) none ss=zih (zii hs) (zio (ss.take (k+1))) (ss.drop (k+1))):=hd_ (by rw[HV.out,zih,hlo,hok,show zio (ss.take k)=none by rw[h0];rfl,HT.out,ziq];rfl)
        have n0:decide (0<k)=false:=by simp;omega
        clear h0 hok hlo;go_wp2_with fail;refine wp_region_quiet_below (by kernel_rfl) (by kernel_rfl) ?_
        repeat (first | go_big_quiet_step (exact cF _ _) | quiet_step (exact cF _ _))
        refine wpQuiet_nil ?_;intro _ hw9;obtain⟨⟨dq,osq⟩,hw9⟩:=hw9;subst hw9;have HB4:=hd_ (z0q HB3.out HB3.out.size (below_regrown _ dq osq));have HM4:=hd_ (z2k.below HM3.out (below_regrown _ dq osq));generalize grow (redrawn (wr.alloc (.cells #[.int .i64 x.kind,.string x.path,.int .i64 x.num,.string x.frm,.string x.dst] 50)) dq) osq=W5 at HB4 HM4 ⊢;go_wp2_with fail;go_roundw
        case rel=>exact⟨k+1,by omega,by go_num,HB4,HM4,HO⟩
        case measure=>simp [intOf];omega
       ·obtain⟨ad2,had,hab2,u0,u1,u2,u3,u4⟩:=z57.at_ (HS.out.below HB.out) hj;injection had with had
        subst had;have hys:=HZ2.out ss[j] (List.getElem_mem _);generalize ss[j]=y at hla u0 u1 u2 u3 u4 hys;have hba:=(Below.refl wr.heap.size wr).alloc (Nat.le_refl _) (.cells #[.int .i64 x.kind,.string x.path,.int .i64 x.num,.string x.frm,.string x.dst] 50);have e1:=cell_regrown ((hba.cell (p:=⟨(ad.add (j * 5)).block,(ad.add (j * 5)).off+1,none⟩) (block_lt_of_cell u1)).trans u1);have n0:decide (0<k)=true:=by simp;omega
        have n1:(k:Int) - 1=(j:Int):=by omega
        have HCMP:=hd_ (fun X=>z47 y.path x.path X (by omega) (by omega))
        have cC:∀ d os,Calls prog 55 #[.string y.path,.string x.path] (grow (redrawn (wr.alloc (.cells #[.int .i64 x.kind,.string x.path,.int .i64 x.num,.string x.frm,.string x.dst] 50)) d) os) fun e w''=>e=.returned (.int .i64 (z2z y.path x.path))∧∃ p:Regrown,w''=grow (redrawn (wr.alloc (.cells #[.int .i64 x.kind,.string x.path,.int .i64 x.num,.string x.frm,.string x.dst] 50)) p.d) p.os:=fun d os=>Calls.regrown_of ((HCMP.out (grow (redrawn (wr.alloc (.cells #[.int .i64 x.kind,.string x.path,.int .i64 x.num,.string x.frm,.string x.dst] 50)) d) os)).mono (by rintro e w5 ⟨rfl,n5,rfl⟩;exact⟨rfl,z9r _ _⟩))
        generalize hcv:z2z y.path x.path=cv at cC;by_cases hge:0≤cv
        ·have HO:Hid (zik hs ss=351):=hd_ (by rw[HE.out,HV.out,zih,hlo,hok,hla,show zig (some y) x=true by rw[zig,hcv,decide_eq_true hge]];rfl)
         have n2:decide ((0:Int)≤cv)=true:=decide_eq_true hge;clear hcv hok hla hkj hge hlo;go_wp2_with fail;refine wp_region_quiet_below (by kernel_rfl) (by kernel_rfl) ?_
         repeat (first | go_big_quiet_step (first | exact cF _ _ | exact cC _ _) | quiet_step (first | exact cF _ _ | exact cC _ _))
         refine wpQuiet_nil ?_;intro _ hw9;obtain⟨⟨dq,osq⟩,hw9⟩:=hw9;subst hw9;have HB4:=hd_ (z0q HB3.out HB3.out.size (below_regrown _ dq osq));have HM4:=hd_ (z2k.below HM3.out (below_regrown _ dq osq));generalize grow (redrawn (wr.alloc (.cells #[.int .i64 x.kind,.string x.path,.int .i64 x.num,.string x.frm,.string x.dst] 50)) dq) osq=W5 at HB4 HM4 ⊢;go_wp2_with fail;go_ret;exact⟨z3a HO.out.symm,HB4.out⟩
        ·have HO:Hid (zih (zii hs) none ss=zih (zii hs) (zio (ss.take (k+1))) (ss.drop (k+1))):=hd_ (by rw[HV.out,zih,hlo,hok,hla,HT.out,ziq,show zig (some y) x=false by rw[zig,hcv,decide_eq_false hge]];rfl)
         have n2:decide ((0:Int)≤cv)=false:=decide_eq_false hge;clear hcv hok hla hkj hge hlo;go_wp2_with fail;refine wp_region_quiet_below (by kernel_rfl) (by kernel_rfl) ?_
         repeat (first | go_big_quiet_step (first | exact cF _ _ | exact cC _ _) | quiet_step (first | exact cF _ _ | exact cC _ _))
         refine wpQuiet_nil ?_;intro _ hw9;obtain⟨⟨dq,osq⟩,hw9⟩:=hw9;subst hw9;have HB4:=hd_ (z0q HB3.out HB3.out.size (below_regrown _ dq osq));have HM4:=hd_ (z2k.below HM3.out (below_regrown _ dq osq));generalize grow (redrawn (wr.alloc (.cells #[.int .i64 x.kind,.string x.path,.int .i64 x.num,.string x.frm,.string x.dst] 50)) dq) osq=W5 at HB4 HM4 ⊢;go_wp2_with fail;go_roundw
         case rel=>exact⟨k+1,by omega,by go_num,HB4,HM4,HO⟩
         case measure=>simp [intOf];omega
     ·have hke:k=ss.length:=by omega
      subst hke;rw[List.drop_length] at HV;have hge:¬((ss.length:Int)<(ss.length:Int)):=by omega
      have HR1:=hd_ (HRES.out wr HB.out);have HE2:Hid (zik hs ss=if z4m (z56 hs ss)=0 then 0 else 351):=hd_ (by rw[HE.out,HV.out];rfl)
      go_wp2_with fail;refine HR1.out.mono ?_;rintro e w2 ⟨v,rfl,hv,hb2⟩;have HVV:=hd_ (HC1.out w2 v hv);have HB5:=hd_ (z0r HB.out hb2);obtain⟨A2,c2,rfl,-⟩:=id hv;clear hv hb2;generalize z4m (z56 hs ss)=ce at HVV HE2;go_wp2_with fail;refine HVV.out.mono ?_;rintro e w3 ⟨rfl,hb3⟩;have HB6:=hd_ (z0r HB5.out hb3);clear hb3;by_cases he:ce=0
      ·subst he;go_wp2_with fail;go_ret;exact⟨z3a HE2.out.symm,HB6.out⟩
      ·have HO:=hd_ (HE2.out.trans (if_neg he));have n0:(ce == 0)=false:=beq_eq_false_iff_ne.2 he;have n1:(ce != 0)=true:=by rw[bne,n0];rfl
       clear he;go_wp2_with fail;go_ret;exact⟨z3a HO.out.symm,HB6.out⟩
section
variable {u0 u1 u2 u3 u4 u5 u6 u7 u8 u9 gA gC gD gE gF gG gH gI gJ gK gL gM gN gO gP gQ gR gT gV gW gX gY gZ i6 i7 i8 ia ib ic ie ig ii ij ik il im io ip iq ir iu iv iw ix iy iz iA iB iC iD iE iF iG iH iI iJ iK iL iM iN iO iP iQ iR iS iT iU iV iW iX iY iZ j0 j1 j2 j5 j6 j7 j8 j9 jb jd jf jg jh ji jj jk jl jm bE bF bG bH bI bJ bK bL bM bN bO bP bQ bT bU bV bW bX bY bZ cj ck cn cx cy cz cA cB cD cG cH cI cJ cM cN cO cP cQ cR cT cU cW cX cY cZ da dc dd de df dg dh di dj dm du dw dx dy dz dA dB dC dD dE dF dG dH dI dJ dK dL dM dN dO dP dQ dR dS dT dU dV dW dX dY dZ ed ei el en : Value}
theorem chR23 (ops:Array Oper)(hops:Tryz.f57.body.bind (z0x 23)=some ops)(Q:Exit→Act→World→Prop)(V:World)(g18 g20:Nat)(v:Rev)(x:Edt)(h18:Blk V g18 90 [.string v.path,.int .i64 v.num,.int .i64 v.chg,.int .i64 v.act,.int .i64 v.ty.base,.bool v.ty.k,.bool v.ty.l,.bool v.ty.x,.int .u64 v.sum,.int .i64 v.size,.string v.frm,.int .i64 v.fnum])(h20:Blk V g20 100 [.string x.path,.int .i64 x.act,.int .i64 x.ty.base,.bool x.ty.k,.bool x.ty.l,.bool x.ty.x,.int .u64 x.sum,.int .i64 x.size,.int .i64 x.base,.string x.frm,.int .i64 x.fnum,.int .i64 x.fence])(hne:g20≠g18)
  (hQ:∀(aW aX aY aZ ba bd bf bg bh bi bj bq bv:Value) (w':World),Blk w' g20 100 [.string x.path,.int .i64 4,.int .i64 v.ty.base,.bool v.ty.k,.bool v.ty.l,.bool v.ty.x,.int .u64 v.sum,.int .i64 v.size,.int .i64 x.base,.string v.path,.int .i64 v.num,.int .i64 x.fence]→V.grownBy w' (some g20)→Q .normal ⟨#[u0,u1,u2,u3,u4,u5,u6,u7,u8,u9,gA,gC,gD,gE,gF,gG,gH,gI,gJ,gK,.pointer (some ⟨g20,0,none⟩),.pointer (some ⟨g18,0,none⟩),gN,gO,gP,gQ,gR,gT,gV,gW,gX,gY,gZ,i6,i7,i8,ia,ib,ic,ie,ig,ii,ij,ik,il,im,io,ip,iq,ir,iu,iv,iw,ix,iy,iz,iA,iB,iC,iD,iE,iF,iG,iH,iI,iJ,iK,iL,iM,iN,iO,iP,iQ,iR,iS,iT,iU,iV,iW,iX,iY,iZ,j0,j1,j2,j5,j6,j7,j8,j9,jb,jd,jf,jg,jh,ji,jj,jk,jl,jm,bE,bF,bG,bH,bI,bJ,bK,bL,bM,bN,bO,bP,bQ,bT,bU,bV,bW,bX,bY,bZ,cj,ck,cn,cx,cy,cz,cA,cB,cD,cG,cH,cI,cJ,cM,cN,cO,cP,cQ,cR,cT,aW,aX,aY,aZ,ba,bd,bf,bg,bh,bi,bj,bq,bv,dj,dm,du,dw,dx,dy,dz,dA,dB,dC,dD,dE,dF,dG,dH,dI,dJ,dK,dL,dM,dN,dO,dP,dQ,dR,dS,dT,dU,dV,dW,dX,dY,dZ,ed,ei,el,en],[]⟩ w'):
  (Code.region 23 ops true).wp prog Q ⟨#[u0,u1,u2,u3,u4,u5,u6,u7,u8,u9,gA,gC,gD,gE,gF,gG,gH,gI,gJ,gK,.pointer (some ⟨g20,0,none⟩),.pointer (some ⟨g18,0,none⟩),gN,gO,gP,gQ,gR,gT,gV,gW,gX,gY,gZ,i6,i7,i8,ia,ib,ic,ie,ig,ii,ij,ik,il,im,io,ip,iq,ir,iu,iv,iw,ix,iy,iz,iA,iB,iC,iD,iE,iF,iG,iH,iI,iJ,iK,iL,iM,iN,iO,iP,iQ,iR,iS,iT,iU,iV,iW,iX,iY,iZ,j0,j1,j2,j5,j6,j7,j8,j9,jb,jd,jf,jg,jh,ji,jj,jk,jl,jm,bE,bF,bG,bH,bI,bJ,bK,bL,bM,bN,bO,bP,bQ,bT,bU,bV,bW,bX,bY,bZ,cj,ck,cn,cx,cy,cz,cA,cB,cD,cG,cH,cI,cJ,cM,cN,cO,cP,cQ,cR,cT,cU,cW,cX,cY,cZ,da,dc,dd,de,df,dg,dh,di,dj,dm,du,dw,dx,dy,dz,dA,dB,dC,dD,dE,dF,dG,dH,dI,dJ,dK,dL,dM,dN,dO,dP,dQ,dR,dS,dT,dU,dV,dW,dX,dY,dZ,ed,ei,el,en],[]⟩ V:=by
 simp only[Tryz.f57,Option.bind_some,z0x] at hops
 simp at hops
 subst hops;have HQ:=hd_ hQ;have H20:=hd_ h20;obtain⟨r0,r1,r2,r3,r4,r5,r6,r7,r8,r9,r10,r11⟩:=z81 h18;obtain⟨x0,x1,x2,x3,x4,x5,x6,x7,x8,x9,x10,x11⟩:=z81 h20;obtain⟨f0,f1,f2,f3,f4,f5,f6,f7,f8,f9,f10,f11⟩:=zdi h20;have hne2:¬(g18=g20):=fun e=>hne e.symm;have H18:=hd_ h18;have HC:Hid (∀ w',Blk w' g18 90 [.string v.path,.int .i64 v.num,.int .i64 v.chg,.int .i64 v.act,.int .i64 v.ty.base,.bool v.ty.k,.bool v.ty.l,.bool v.ty.x,.int .u64 v.sum,.int .i64 v.size,.string v.frm,.int .i64 v.fnum]→w'.cell? ⟨g18,0,none⟩=some (.string v.path)∧w'.cell? ⟨g18,1,none⟩=some (.int .i64 v.num)∧w'.cell? ⟨g18,4,none⟩=some (.int .i64 v.ty.base)∧w'.cell? ⟨g18,5,none⟩=some (.bool v.ty.k)∧w'.cell? ⟨g18,6,none⟩=some (.bool v.ty.l)∧w'.cell? ⟨g18,7,none⟩=some (.bool v.ty.x)∧w'.cell? ⟨g18,8,none⟩=some (.int .u64 v.sum)∧w'.cell? ⟨g18,9,none⟩=some (.int .i64 v.size)):=hd_ fun w' h=>⟨h.cell 0,h.cell 1,h.cell 4,h.cell 5,h.cell 6,h.cell 7,h.cell 8,h.cell 9⟩;clear hQ h18 h20;go_region_held3 (fun w'=>Blk w' g18 90 [.string v.path,.int .i64 v.num,.int .i64 v.chg,.int .i64 v.act,.int .i64 v.ty.base,.bool v.ty.k,.bool v.ty.l,.bool v.ty.x,.int .u64 v.sum,.int .i64 v.size,.string v.frm,.int .i64 v.fnum]∧w'.cell? ⟨g18,0,none⟩=some (.string v.path)∧w'.cell? ⟨g18,1,none⟩=some (.int .i64 v.num)∧w'.cell? ⟨g18,4,none⟩=some (.int .i64 v.ty.base)∧w'.cell? ⟨g18,5,none⟩=some (.bool v.ty.k)∧w'.cell? ⟨g18,6,none⟩=some (.bool v.ty.l)∧w'.cell? ⟨g18,7,none⟩=some (.bool v.ty.x)∧w'.cell? ⟨g18,8,none⟩=some (.int .u64 v.sum)∧w'.cell? ⟨g18,9,none⟩=some (.int .i64 v.size))
  ((refine z3s ?_ (HC.out _);repeat (first | with_reducible assumption | with_reducible exact H18.out | with_reducible refine Blk.drew' ?_ | with_reducible refine Blk.far ?_ hne _)))
  (fail)
 all_goals exact HQ.out _ _ _ _ _ _ _ _ _ _ _ _ _ _ (Blk.drew' ((((((((((H20.out).set_ 1 (.int .i64 4)).set_ 9 (.string v.path)).set_ 10 (.int .i64 v.num)).set_ 2 (.int .i64 v.ty.base)).set_ 3 (.bool v.ty.k)).set_ 4 (.bool v.ty.l)).set_ 5 (.bool v.ty.x)).set_ 6 (.int .u64 v.sum)).set_ 7 (.int .i64 v.size))) (zor (zoq (zoq (zoq (zoq (zoq (zoq (zoq (zoq (zoq (zos _ _) 1 (.int .i64 4)) 9 (.string v.path)) 10 (.int .i64 v.num)) 2 (.int .i64 v.ty.base)) 3 (.bool v.ty.k)) 4 (.bool v.ty.l)) 5 (.bool v.ty.x)) 6 (.int .u64 v.sum)) 7 (.int .i64 v.size)))
end
