/- A part. -/
import Derived.Test.YtijghobkkdbhnaaGreatDoorMgw41
import Derived.Test.YtijghobkkdbhnaaGreatDoorMgw40
import Derived.Test.YtijghobkkdbhnaaGreatDoorMgw43
set_option linter.unusedVariables false
set_option linter.unusedSimpArgs false
set_option maxHeartbeats 16000000
set_option maxRecDepth 100000
namespace Go.Proofs.YtijghobkkdbhnaaGreatDoor
open Go.RowKit
open Go.Sort (grow)
section
variable {hs ws : List Hav} {op dt : List ByteArray} {a : Hav}
theorem zpy (h:((z6e ws a.path).isSome && (z6e hs a.path).isSome && decide ((z6e ws a.path).getD zo4=(z6e hs a.path).getD zo4))=true):zpq hs ws op dt a=none:=by
 unfold zpq;cases e1:z6e ws a.path with
 | none=>rw[e1] at h;cases h
 | some b =>
  cases e2:z6e hs a.path with
  | none=>rw[e1,e2] at h;cases h
  | some c =>
   rw[e1,e2] at h;have h:decide (b=c)=true:=h;have e:b=c:=of_decide_eq_true h;rw[zfh,if_pos e.symm];rfl
theorem zpz (hm:a∈hs∨a∈ws)(h:((z6e ws a.path).isSome && (z6e hs a.path).isSome && decide ((z6e ws a.path).getD zo4=(z6e hs a.path).getD zo4))=false):
  zpq hs ws op dt a=some (zfd op dt ⟨0,a.path,((z6e ws a.path).getD zo4).num,((z6e hs a.path).getD zo4).loc,((z6e ws a.path).getD zo4).loc⟩):=by
 unfold zpq;cases e1:z6e ws a.path with
 | none =>
  cases e2:z6e hs a.path with
  | none=>exact hm.elim (fun h=>absurd rfl (z62.1 e2 a h)) (fun h=>absurd rfl (z62.1 e1 a h))
  | some c =>
   have e3:=(z61 e2).2;show some (zfd op dt ⟨0,c.path,0,c.loc,z2l⟩)=_
   rw[e3];rfl
 | some b =>
  have e4:=(z61 e1).2;cases e2:z6e hs a.path with
  | none =>
   show some (zfd op dt ⟨0,b.path,b.num,z2l,b.loc⟩)=_
   rw[e4];rfl
  | some c =>
   rw[e1,e2] at h;have h:decide (b=c)=false:=h;have e:¬ b=c:=of_decide_eq_false h;rw[zfh,if_neg (fun e'=>e e'.symm)];show some (zfd op dt ⟨0,b.path,b.num,c.loc,b.loc⟩)=_
   rw[e4];rfl
theorem zq0 {p f d:ByteArray}{n:Int}:(p∈op→zfd op dt ⟨0,p,n,f,d⟩=⟨6,p,n,f,d⟩)∧(p∉op→(zpx dt f d=true→zfd op dt ⟨0,p,n,f,d⟩=⟨5,p,n,f,d⟩)∧(zpx dt f d=false→zfd op dt ⟨0,p,n,f,d⟩=⟨z3p f d,p,n,f,d⟩)):=by
 have hk:zfd op dt ⟨0,p,n,f,d⟩=⟨zfc op dt ⟨0,p,n,f,d⟩,p,n,f,d⟩:=rfl;have hb:zpx dt f d=true↔(f≠z2l∧f∈dt)∨(d≠z2l∧d∈dt):=by
  unfold zpx;simp only[Bool.or_eq_true,Bool.and_eq_true,decide_eq_true_eq]
 rw[hk];refine⟨fun h=>?_,fun h=>⟨fun h2=>?_,fun h2=>?_⟩⟩
 ·rw[show zfc op dt ⟨0,p,n,f,d⟩=6 from if_pos h]
 ·rw[show zfc op dt ⟨0,p,n,f,d⟩=5 from by unfold zfc;rw[if_neg h,if_pos (hb.1 h2)]]
 ·rw[show zfc op dt ⟨0,p,n,f,d⟩=z3p f d from by unfold zfc;rw[if_neg h,if_neg (fun h3=>by rw[hb.2 h3] at h2;cases h2)]]
end
theorem take_fm {α β:Type}(f:α→Option β){l:List α}{k:Nat}(hk:k<l.length):(l.take (k+1)).filterMap f=(l.take k).filterMap f++(f l[k]).toList:=by
 rw[List.take_succ_eq_append_getElem hk,List.filterMap_append];congr 1
theorem stT9 (T:Code)(hT:Tryz.f50.body.bind (zi2 9)=some T)(R:Ending→World→Prop)(W:World)(hs ws al:List Hav)(op dt:List ByteArray)(Ah Aw Ao At Aa:Option Addr)(ch cw co ct ca:Nat)
  (hW:z4b W (.slice Aw ws.length cw) ws) (hH:z4b W (.slice Ah hs.length ch) hs) (hop:Strs W (.slice Ao op.length co) op) (hdt:Strs W (.slice At dt.length ct) dt) (hA:z4b W (.slice Aa al.length ca) al)
  (h1:zf6 hs) (h2:zf6 ws) (hAl:zpo hs ws ws.length al) (hl:hs.length≤1024) (wl:ws.length≤1024) (opl:op.length≤1000000) (dtl:dt.length≤1000000)
  (hR:∀ X v,Below W.heap.size W X→zjf X W.heap.size v (zff hs ws op dt)→R (.returned v) X)
  (u4 u5 u6 u7 u8 gA gC gD gE gF gG gH gI gJ gK gL gM gN gO gP gQ gR gT gV gW gX gY gZ i6 i7 i8 ia ib ic ie ig ii ij ik il im io ip iq ir iu iv iw ix iy iz iA iB iC iD iE iF iG iH iI iJ iK iL iM iN iO iP iQ iR iS iT iU iV iW iX iY iZ j0 j1 j2 j5 j6 j7 j8 j9 jb jd jf jg jh ji jj jk jl bB bD bE bF bG bH bI bJ bK bL bM bN bO bP bQ bT bU bV bW bX bY bZ cj ck cn cx cy cz cA cB cD cF cG cH cI cJ cK cM cN cO cP cQ cS cT cU cW cZ da dc dd de df dg dh di dj dm du dw dx dy:Value):
  T.wp Tryz.prog (bodyPost Tryz.prog Tryz.f50 R) ⟨#[.slice Aw ws.length cw,.slice Ah hs.length ch,.slice Ao op.length co,.slice At dt.length ct,u4,u5,u6,u7,u8,.slice none 0 0,.slice Aa al.length ca,gA,gC,gD,gE,gF,gG,gH,gI,gJ,gK,gL,gM,gN,gO,gP,gQ,gR,gT,gV,gW,gX,gY,gZ,i6,i7,i8,ia,ib,ic,ie,ig,ii,ij,ik,il,im,io,ip,iq,ir,iu,iv,iw,ix,iy,iz,iA,iB,iC,iD,iE,iF,iG,iH,iI,iJ,iK,iL,iM,iN,iO,iP,iQ,iR,iS,iT,iU,iV,iW,iX,iY,iZ,j0,j1,j2,j5,j6,j7,j8,j9,jb,jd,jf,jg,jh,ji,jj,jk,jl,bB,bD,bE,bF,bG,bH,bI,bJ,bK,bL,bM,bN,bO,bP,bQ,bT,bU,bV,bW,bX,bY,bZ,cj,ck,cn,cx,cy,cz,cA,cB,cD,cF,cG,cH,cI,cJ,cK,cM,cN,cO,cP,cQ,cS,cT,cU,cW,cZ,da,dc,dd,de,df,dg,dh,di,dj,dm,du,dw,dx,dy],[]⟩ W:=by
 simp only[Tryz.f50,Option.bind_some,zi2,zi1] at hT
 simp at hT
 subst hT;have HW:=hd_ (fun X (hX:Below W.heap.size W X)=>Row.below hW hX);have HH:=hd_ (fun X (hX:Below W.heap.size W X)=>Row.below hH hX);have HAL:=hd_ (fun X (hX:Below W.heap.size W X)=>Row.below hA hX);have HOP:=hd_ (fun X (hX:Below W.heap.size W X) s=>zpb op (.slice Ao op.length co) s X (hop.below hX) opl);have HDT:=hd_ (fun X (hX:Below W.heap.size W X) s=>zpb dt (.slice At dt.length ct) s X (hdt.below hX) dtl);have HR:=hd_ hR;have HOK:=hd_ (And.intro h1 h2);have HALS:=hd_ hAl;have hall:al.length≤2048:=by have:=hAl.len;omega
 have HLN:=hd_ hall;clear hW hH hop hdt hA h1 h2 hAl hR;go_wp2_with fail;go_loopw [9,14] (fun p i wr=>∃(k:Nat) (A:Option Addr) (c:Nat),k≤al.length∧p=.slice A ((al.take k).filterMap (zpq hs ws op dt)).length c∧i=.int .i64 k∧Hid (Below W.heap.size W wr∧zjf wr W.heap.size (.slice A ((al.take k).filterMap (zpq hs ws op dt)).length c) ((al.take k).filterMap (zpq hs ws op dt)))) (fun _ i _=>al.length - (intOf i).toNat)
 case atStart=>exact⟨0,none,0,Nat.zero_le _,rfl,rfl,hd_ ⟨Below.refl _ _,World.ownsRow_nil _ _ _ _⟩⟩
 case round =>
  obtain⟨k,A,c,hk,rfl,rfl,HI⟩:=hrel;have hpk:((al.take k).filterMap (zpq hs ws op dt)).length≤2048:=Nat.le_trans (List.length_filterMap_le ..) (by rw[List.length_take];omega)
  by_cases hlt:k<al.length
  ·obtain⟨ad,rfl,hab,hld⟩:=z4b.at_ (HAL.out wr HI.out.1) hlt;have HT:=hd_ (take_fm (zpq hs ws op dt) hlt);have HYES:=hd_ (fun h=>zpy (hs:=hs) (ws:=ws) (op:=op) (dt:=dt) (a:=al[k]'hlt) h);have HNO:=hd_ (fun h=>zpz (hs:=hs) (ws:=ws) (op:=op) (dt:=dt) (HALS.out.mem (al[k]'hlt) (List.getElem_mem hlt)) h);have HLT:=hd_ hlt;generalize al[k]=a at hld HT HYES HNO;have HKW:=hd_ (fun n f d=>zq0 (op:=op) (dt:=dt) (p:=a.path) (f:=f) (d:=d) (n:=n));have HAT:=hd_ (fun X (hX:Below wr.heap.size wr X)=>z4c.below hld (z03 hld.1) hX);have HGW:Hid (Calls Tryz.prog 94 #[.slice Aw ws.length cw,.string a.path] wr fun e w'=>e=.returned (.tuple #[.agg #[.string (((z6e ws a.path).getD zo4)).path,.int .i64 (((z6e ws a.path).getD zo4)).num,.string (((z6e ws a.path).getD zo4)).loc],.bool (z6e ws a.path).isSome])∧Below wr.heap.size wr w'):=hd_ (zo7 ws _ a.path wr (HW.out wr HI.out.1) (by omega))
   have HGH:Hid (∀ X,Below W.heap.size W X→Calls Tryz.prog 94 #[.slice Ah hs.length ch,.string a.path] X fun e w'=>e=.returned (.tuple #[.agg #[.string (((z6e hs a.path).getD zo4)).path,.int .i64 (((z6e hs a.path).getD zo4)).num,.string (((z6e hs a.path).getD zo4)).loc],.bool (z6e hs a.path).isSome])∧Below X.heap.size X w'):=hd_ fun X hX=>zo7 hs _ a.path X (HH.out X hX) (by omega)
   generalize (z6e ws a.path).getD zo4=wz at HGW HYES HNO;generalize (z6e ws a.path).isSome=b1 at HGW HYES HNO;generalize (z6e hs a.path).getD zo4=hz at HGH HYES HNO;generalize (z6e hs a.path).isSome=b2 at HGH HYES HNO;obtain⟨s0,-,-⟩:=hld;clear hlt hab;go_wp2_with fail;refine HGW.out.mono ?_;rintro e w2 ⟨rfl,hb⟩;dsimp only;have hA3:Below w2.heap.size w2 (w2.alloc (.cells #[.string wz.path,.int .i64 wz.num,.string wz.loc] 96)):=(Below.refl _ _).alloc (Nat.le_refl _) _;have H15:=hd_ (z0l w2 [.string wz.path,.int .i64 wz.num,.string wz.loc] 96);have HX3:=hd_ (z0r hb hA3);clear hb hA3 s0 HGW;go_upto_region 13 with fail;generalize w2.alloc (.cells #[.string wz.path,.int .i64 wz.num,.string wz.loc] 96)=W3 at H15 HX3 ⊢;generalize w2.heap.size=g15 at H15 ⊢;obtain⟨s0,-,-⟩:=HAT.out W3 HX3.out;have HC:=hd_ (HGH.out W3 (z0r HI.out.1 HX3.out));go_wp2_with fail;refine HC.out.mono ?_;rintro e w4 ⟨rfl,hb⟩;dsimp only;have hA5:Below w4.heap.size w4 (w4.alloc (.cells #[.string hz.path,.int .i64 hz.num,.string hz.loc] 96)):=(Below.refl _ _).alloc (Nat.le_refl _) _;have H17:=hd_ (z0l w4 [.string hz.path,.int .i64 hz.num,.string hz.loc] 96);have H15':=hd_ ((H15.out.below hb H15.out.lt).alloc (.cells #[.string hz.path,.int .i64 hz.num,.string hz.loc] 96));have HX5:=hd_ (z0r (z0r HX3.out hb) hA5);clear hb hA5 s0 HC H15 HX3 HGH;go_upto_region 14 with fail;generalize w4.alloc (.cells #[.string hz.path,.int .i64 hz.num,.string hz.loc] 96)=W5 at H17 H15' HX5 ⊢;generalize w4.heap.size=g17 at H17 ⊢;refine stR14 _ (by kernel_rfl) _ W5 g15 g17 wz hz b1 b2 H15'.out H17.out ?_
   intro fM fN fO fP fQ fR fS fT;generalize (b1 && b2 && decide (wz=hz))=bb at HYES HNO ⊢;cases bb
   rotate_left
   ·have HST:=hd_ (HYES.out rfl);have HN:=hd_ (show Below W.heap.size W W5∧zjf W5 W.heap.size (.slice A ((al.take k).filterMap (zpq hs ws op dt)).length c) ((al.take k).filterMap (zpq hs ws op dt)) from ⟨z0r HI.out.1 HX5.out,z0n HI.out.2 HX5.out⟩);clear HYES HNO HI HKW HAT HOP HDT;go_wp2_with fail;go_roundw
    case rel =>
     refine⟨k+1,A,c,HLT.out,?_,by go_num,?_⟩
     ·rw[HT.out,HST.out,Option.toList,List.append_nil]
     ·rw[HT.out,HST.out,Option.toList,List.append_nil];exact HN
    case measure=>have:=HLT.out;simp [intOf];omega
   have HST:=hd_ (HNO.out rfl);obtain⟨y,hy⟩:∃ y:Syn,y=zfd op dt ⟨0,a.path,wz.num,hz.loc,wz.loc⟩:=⟨_,rfl⟩;have HKY:=hd_ (HKW.out wz.num hz.loc wz.loc);rw[← hy] at HST HKY;clear hy HYES HNO HKW;go_upto_region 15 with fail;refine stR15 _ (by kernel_rfl) _ W5 ad al.length ca k g15 g17 a wz hz (HAT.out W5 HX5.out) (by have:=HLT.out;omega) H15'.out H17.out ?_
   intro r82 r83 r84 r85 r86 r87 r88 r89 r90 r91 r92 r93 r94 r95 r96 r97 r98 g19 W6 hB6 hg6 hb6;have HB6:Hid (Blk W6 g19 50 [.int .i64 ((⟨z3p hz.loc wz.loc,a.path,wz.num,hz.loc,wz.loc⟩:Syn)).kind,.string ((⟨z3p hz.loc wz.loc,a.path,wz.num,hz.loc,wz.loc⟩:Syn)).path,.int .i64 ((⟨z3p hz.loc wz.loc,a.path,wz.num,hz.loc,wz.loc⟩:Syn)).num,.string ((⟨z3p hz.loc wz.loc,a.path,wz.num,hz.loc,wz.loc⟩:Syn)).frm,.string ((⟨z3p hz.loc wz.loc,a.path,wz.num,hz.loc,wz.loc⟩:Syn)).dst]):=hd_ hB6;have HG6:=hd_ (Nat.le_trans HX5.out.size hg6);have HX6:=hd_ (z0r HX5.out hb6);clear hB6 hg6 hb6 H15' H17 HX5 HAT;have HC:=hd_ (HOP.out W6 (z0r HI.out.1 HX6.out) a.path);have z1:W6.cell? ⟨g19,1,none⟩=some (.string a.path):=HB6.out.cell 1;by_cases hin:a.path∈op
   focus
    have HE:=hd_ (HKY.out.1 hin);rw[decide_eq_true hin] at HC;clear hin HKY HOP HDT;go_wp2_with fail;refine HC.out.mono ?_;rintro e w7 ⟨rfl,hb⟩;have HB7:=hd_ (HB6.out.below hb HB6.out.lt);have HX7:=hd_ (z0r HX6.out hb);clear hb z1 HC HB6 HX6;have z0:w7.cell? ⟨g19,0,none⟩=some (.int .i64 (z3p hz.loc wz.loc)):=HB7.out.cell 0;have f0:w7.frozen? ⟨g19,0,none⟩=false:=HB7.out.frozen 0;have HB9:Hid (Blk (w7.setCell ⟨g19,0,none⟩ (.int .i64 6)) g19 50 [.int .i64 y.kind,.string y.path,.int .i64 y.num,.string y.frm,.string y.dst]):=hd_ (by rw[HE.out];exact HB7.out.set_ 0 (.int .i64 6))
    have HX9:Hid (Below wr.heap.size wr (w7.setCell ⟨g19,0,none⟩ (.int .i64 6))):=hd_ (HX7.out.setCell HG6.out _);go_upto_region 20 with fail;generalize w7.setCell ⟨g19,0,none⟩ (.int .i64 6)=W9 at HB9 HX9 ⊢
   rotate_left
   focus
    rw[decide_eq_false hin] at HC;have HKN:=hd_ (HKY.out.2 hin);clear hin HKY HOP;go_wp2_with fail;refine HC.out.mono ?_;rintro e w7 ⟨rfl,hb⟩;have HB7:=hd_ (HB6.out.below hb HB6.out.lt);have HX7:=hd_ (z0r HX6.out hb);clear hb z1 HC HB6 HX6;go_upto_region 18 with fail;refine stR18 _ (by kernel_rfl) _ w7 g19 ⟨z3p hz.loc wz.loc,a.path,wz.num,hz.loc,wz.loc⟩ dt (.slice At dt.length ct) HB7.out (fun X s hX=>HDT.out X (z0r HI.out.1 (z0r HX7.out hX)) s) ?_
    intro q104 q105 q106 q107 q108 q109 q110 q111 q112 q113 q114 q115 q116 q117 q118 q119 q120 q121 q122 w8 hb8;dsimp only;have HB8:=hd_ (HB7.out.below hb8 HB7.out.lt);have HX8:=hd_ (z0r HX7.out hb8);clear hb8 HB7 HX7 HDT;generalize zpx dt hz.loc wz.loc=db at HKN ⊢;cases db
    focus
     have HE:=hd_ (HKN.out.2 rfl);have HB9:Hid (Blk w8 g19 50 [.int .i64 y.kind,.string y.path,.int .i64 y.num,.string y.frm,.string y.dst]):=hd_ (by rw[HE.out];exact HB8.out)
     have HX9:=HX8;clear HKN HB8 HX8;go_upto_region 20 with fail;generalize w8=W9 at HB9 HX9 ⊢
    rotate_left
    focus
     have HE:=hd_ (HKN.out.1 rfl);have z0:w8.cell? ⟨g19,0,none⟩=some (.int .i64 (z3p hz.loc wz.loc)):=HB8.out.cell 0;have f0:w8.frozen? ⟨g19,0,none⟩=false:=HB8.out.frozen 0;have HB9:Hid (Blk (w8.setCell ⟨g19,0,none⟩ (.int .i64 5)) g19 50 [.int .i64 y.kind,.string y.path,.int .i64 y.num,.string y.frm,.string y.dst]):=hd_ (by rw[HE.out];exact HB8.out.set_ 0 (.int .i64 5))
     have HX9:Hid (Below wr.heap.size wr (w8.setCell ⟨g19,0,none⟩ (.int .i64 5))):=hd_ (HX8.out.setCell HG6.out _);clear HKN;go_upto_region 20 with fail;generalize w8.setCell ⟨g19,0,none⟩ (.int .i64 5)=W9 at HB9 HX9 ⊢
   all_goals
    have HO9:=hd_ (z0n HI.out.2 HX9.out);have HL9:=hd_ (z0r HI.out.1 HX9.out);obtain⟨z0,z1,z2,z3,z4⟩:=z3r (x:=y) HB9.out;have HOX:=hd_ (z0n HO9.out ((Below.refl W9.heap.size W9).alloc (Nat.le_refl _) (.cells #[.int .i64 y.kind,.string y.path,.int .i64 y.num,.string y.frm,.string y.dst] 50)));have HLX:=hd_ (HL9.out.alloc HL9.out.size (.cells #[.int .i64 y.kind,.string y.path,.int .i64 y.num,.string y.frm,.string y.dst] 50));have hrow:=z0i W9 [.int .i64 y.kind,.string y.path,.int .i64 y.num,.string y.frm,.string y.dst] 50 5 1 rfl (by decide) _ rfl
    go_wp2_with (at_builtin;refine z0k rfl rfl ziw HOX.out rfl hrow rfl HLX.out HLX.out.size (zix y) (by omega) (by unfold maxLen;omega) ?_;intro A9 c9 w9 hown9 hbl9)
    have HN:=hd_ (And.intro hbl9 hown9);clear hown9 hbl9 hrow;go_wp2_with fail;go_roundw
    case rel =>
     refine⟨k+1,A9,c9,HLT.out,?_,by go_num,?_⟩
     ·rw[HT.out,HST.out,Option.toList,List.length_append];rfl
     ·rw[HT.out,HST.out,Option.toList,List.length_append,List.length_singleton];refine hd_ ⟨HN.out.1,?_⟩;unfold zjf;rw[List.length_append,List.length_singleton,z56];exact HN.out.2
    case measure=>have:=HLT.out;simp [intOf];omega
  ·obtain rfl:k=al.length:=by omega
   have HP:Hid ((al.take al.length).filterMap (zpq hs ws op dt)=zfe hs ws op dt):=hd_ (by rw[List.take_length];exact zps HOK.out.1 HOK.out.2 HALS.out)
   rw[HP.out] at HI hpk ⊢;have HT:=hd_ (fun(T:Code) hT=>stT21 T hT R wr W.heap.size hs (zfe hs ws op dt) Ah A ch c (fun X hX=>HH.out X (HI.out.1.trans hX)) HI.out.2 HI.out.1.size HOK.out.1 (zfj (op:=op) (dt:=dt) HOK.out.1 HOK.out.2).1 (by omega) (by omega) (fun X hX hO=>HR.out X _ (HI.out.1.trans hX) (by have e:(zel (blB hs (zfe hs ws op dt)) (zfe hs ws op dt))=zff hs ws op dt:=rfl;rw[← e];exact hO)))
   generalize zfe hs ws op dt=P0 at HT ⊢;rename ∀ a w,Code.wp _ (Code.seq (Code.seq (Code.region 21 _ _) _) _) _ a w→_=>hk7
   have HK7:=hd_ hk7;clear hk7 HI HP hpk;go_wp2_with fail;exact HK7.out _ _ (HT.out _ (by kernel_rfl) _ _ _ _ _ _ _ _ _ _ _ _ _ _ _ _ _ _ _ _ _ _ _ _ _ _ _ _ _ _ _ _ _ _ _ _ _ _ _ _ _ _ _ _ _ _ _ _ _ _ _ _ _ _ _ _ _ _ _ _ _ _ _ _ _ _ _ _ _ _ _ _ _ _ _ _ _ _ _ _ _ _ _ _ _ _ _ _ _ _ _ _ _ _ _ _ _ _ _ _ _ _ _ _ _ _ _ _ _ _ _ _ _ _ _ _ _ _ _ _ _ _ _ _ _ _ _ _ _ _ _ _ _ _ _ _ _ _ _ _ _ _ _ _ _ _ _ _ _ _ _ _ _ _ _ _ _ _ _)
def zqk (w:World)(l:List Syn)(e:Ending)(w':World):Prop:=∃ v,e=.returned v∧zjf w' w.heap.size v l∧Below w.heap.size w w'
theorem zqk.mk' {w w':World}{l:List Syn}{v:Value}(h:zjf w' w.heap.size v l)(hb:Below w.heap.size w w'):zqk w l (.returned v) w':=⟨v,rfl,h,hb⟩
theorem zql (hs ws:List Hav)(op dt:List ByteArray)(wv hv ov tv:Value)(w:World)(he:Env w)(hW:z4b w wv ws)(hH:z4b w hv hs)(hop:Strs w ov op)(hdt:Strs w tv dt)(h1:zf6 hs)(h2:zf6 ws)(hl:hs.length≤1024)(wl:ws.length≤1024)(opl:op.length≤1000000)(dtl:dt.length≤1000000):
  Calls Tryz.prog 50 #[wv,hv,ov,tv] w (zqk w (zff hs ws op dt)):=by
 obtain⟨Aw,cw,rfl,-⟩:=id hW;obtain⟨Ah,ch,rfl,-⟩:=id hH;obtain⟨Ao,co,rfl,-⟩:=id hop;obtain⟨At,ct,rfl,-⟩:=id hdt;have HE:=hd_ he;have HW:=hd_ hW;have HH:=hd_ hH;have HOP:=hd_ hop;have HDT:=hd_ hdt;have HOK:=hd_ (And.intro h1 h2);clear he hW hH hop hdt h1 h2;go_enter Tryz.func50,Tryz.ntmps50;go_wp2_with fail;go_loopw [10,11] (fun a i wr=>∃(k:Nat) (al:List Hav) (A:Option Addr) (c:Nat),k≤ws.length∧a=.slice A al.length c∧i=.int .i64 k∧Hid (zpo hs ws k al∧Below w.heap.size w wr∧z4b wr (.slice A al.length c) al)) (fun _ i _=>ws.length - (intOf i).toNat)
 case atStart=>exact⟨0,hs,Ah,ch,Nat.zero_le _,rfl,rfl,hd_ ⟨all_0 HOK.out.1,Below.refl _ _,HH.out⟩⟩
 case round =>
  obtain⟨k,al,A,c,hk,rfl,rfl,HI⟩:=hrel;by_cases hlt:k<ws.length
  ·obtain⟨ad,rfl,hab,s0,s1,s2⟩:=z4b.at_ (Row.below HW.out HI.out.2.1) hlt;have HAT:=hd_ (fun X (hX:Below wr.heap.size wr X)=>z4c.below (x:=ws[k]'hlt) ⟨s0,s1,s2⟩ (z03 s0) hX);have HG:Hid (Calls Tryz.prog 94 #[.slice Ah hs.length ch,.string (ws[k]'hlt).path] wr fun e w'=>e=.returned (.tuple #[.agg #[.string ((z6e hs (ws[k]'hlt).path).getD zo4).path,.int .i64 ((z6e hs (ws[k]'hlt).path).getD zo4).num,.string ((z6e hs (ws[k]'hlt).path).getD zo4).loc],.bool (z6e hs (ws[k]'hlt).path).isSome])∧Below wr.heap.size wr w'):=hd_ (zo7 hs _ (ws[k]'hlt).path wr (Row.below HH.out HI.out.2.1) (by omega))
   have HHAD:Hid ((z6e hs (ws[k]'hlt).path).isSome=true→zpo hs ws (k+1) al):=hd_ fun h=>by
    obtain⟨a,ha⟩:=Option.isSome_iff_exists.1 h;exact all_had HOK.out.2 HI.out.1 hlt ha
   have HPUT:Hid ((z6e hs (ws[k]'hlt).path).isSome=false→zpo hs ws (k+1) (zlc al (ws[k]'hlt))):=hd_ fun h=>all_put HOK.out.1 HOK.out.2 HI.out.1 hlt (by cases e:z6e hs (ws[k]'hlt).path with | none=>rfl | some a=>rw[e] at h;cases h)
   have hxw:=zku HOK.out.2 (ws[k]'hlt) (List.getElem_mem hlt);have hxv:=HOK.out.2.valid (ws[k]'hlt) (List.getElem_mem hlt);have HLT:=hd_ hlt;generalize ws[k]'hlt=x at s0 s1 s2 HAT HG HHAD HPUT hxw hxv;have hall:al.length≤4096:=by have:=HI.out.1.len;omega
   have HPC:=hd_ (fun X (hX:Below wr.heap.size wr X)=>zo1 al (.slice A al.length c) x X (HE.out.below (z0r HI.out.2.1 hX)) (Row.below HI.out.2.2 hX) (fun z hz=>by
    rcases HI.out.1.mem z hz with h | h
    ·exact⟨HOK.out.1.valid z h,by have:=zku HOK.out.1 z h;omega⟩
    ·exact⟨HOK.out.2.valid z h,by have:=zku HOK.out.2 z h;omega⟩) hxv (by omega) (by omega))
   generalize (z6e hs x.path).getD zo4=z at HG;generalize (z6e hs x.path).isSome=b at HG HHAD HPUT;clear hlt hab hxw hxv;go_wp2_with fail;refine HG.out.mono ?_;rintro e w2 ⟨rfl,hb⟩;dsimp only;have hA3:Below w2.heap.size w2 (w2.alloc (.cells #[.string z.path,.int .i64 z.num,.string z.loc] 96)):=(Below.refl _ _).alloc (Nat.le_refl _) _;have HX3:=hd_ (z0r hb hA3);clear hb hA3 s0 s1 s2 HG;go_upto_region 7 with fail;generalize w2.alloc (.cells #[.string z.path,.int .i64 z.num,.string z.loc] 96)=W3 at HX3 ⊢;cases b with
   | true =>
    have HN:=hd_ (show zpo hs ws (k+1) al∧Below w.heap.size w W3∧z4b W3 (.slice A al.length c) al from ⟨HHAD.out rfl,z0r HI.out.2.1 HX3.out,Row.below HI.out.2.2 HX3.out⟩);clear HI HPC HAT HHAD HPUT;go_wp2_with fail;go_roundw
    case rel=>exact⟨k+1,al,A,c,HLT.out,rfl,by go_num,HN⟩
    case measure=>have:=HLT.out;simp [intOf];omega
   | false =>
    obtain⟨s0,s1,s2⟩:=HAT.out W3 HX3.out;have HC:=hd_ (HPC.out W3 HX3.out);have HST:=hd_ (HPUT.out rfl);have HB3:=hd_ (z0r HI.out.2.1 HX3.out);have hkl:(k:Int)<(ws.length:Int):=by have:=HLT.out;omega
    clear HI HPC HAT HHAD HPUT;go_wp2_with fail;refine HC.out.mono ?_;rintro e w4 ⟨v,rfl,ho,hb⟩;obtain⟨A4,c4,rfl⟩:=z0o ho;have HN:=hd_ (show zpo hs ws (k+1) (zlc al x)∧Below w.heap.size w w4∧z4b w4 (.slice A4 (zlc al x).length c4) (zlc al x) from ⟨HST.out,z0r HB3.out hb,Row.of_own ho⟩);clear ho hb s0 s1 s2 HC HST;generalize zlc al x=al2 at HN ⊢;go_wp2_with fail;go_roundw
    case rel=>exact⟨k+1,al2,A4,c4,HLT.out,rfl,by go_num,HN⟩
    case measure=>have:=HLT.out;simp [intOf];omega
  ·obtain rfl:k=ws.length:=by omega
   have HT:=hd_ (fun(T:Code) hT=>stT9 T hT (zqk w (zff hs ws op dt)) wr hs ws al op dt Ah Aw Ao At A ch cw co ct c (Row.below HW.out HI.out.2.1) (Row.below HH.out HI.out.2.1) (HOP.out.below HI.out.2.1) (HDT.out.below HI.out.2.1) HI.out.2.2 HOK.out.1 HOK.out.2 HI.out.1 hl wl opl dtl (fun X v hX hO=>zqk.mk' (z4p hO HI.out.2.1.size) (HI.out.2.1.trans (hX.mono HI.out.2.1.size))));rename ∀ a w,Code.wp _ (Code.seq (Code.seq (Code.region 9 _ _) _) _) _ a w→_=>hk7
   have HK7:=hd_ hk7;clear hk7 HI;go_wp2_with fail;exact HK7.out _ _ (HT.out _ (by kernel_rfl) _ _ _ _ _ _ _ _ _ _ _ _ _ _ _ _ _ _ _ _ _ _ _ _ _ _ _ _ _ _ _ _ _ _ _ _ _ _ _ _ _ _ _ _ _ _ _ _ _ _ _ _ _ _ _ _ _ _ _ _ _ _ _ _ _ _ _ _ _ _ _ _ _ _ _ _ _ _ _ _ _ _ _ _ _ _ _ _ _ _ _ _ _ _ _ _ _ _ _ _ _ _ _ _ _ _ _ _ _ _ _ _ _ _ _ _ _ _ _ _ _ _ _ _ _ _ _ _ _ _ _ _ _ _ _ _ _ _ _ _ _ _ _ _ _ _ _ _ _ _ _ _ _ _ _)
theorem plan_in {hs ws:List Hav}{op dt:List ByteArray}(h1:zf6 hs)(h2:zf6 ws):z6d (zff hs ws op dt)∧∀ x∈zff hs ws op dt,z2s x.path=true∧x.path.size≤1000000∧zq2 x:=
 ⟨(zfk h1 h2).1,fun x hx=>by
  obtain⟨a,b⟩:=zqh (zjt h1 h2 hx);obtain⟨c,d,-⟩:=zf8 a;exact⟨c,by omega,b⟩⟩
def zqm (w:World)(hs:List Hav)(pl:List Syn)(e:Ending)(w':World):Prop:=Below w.heap.size w w'∧∃ v,e=.returned (.tuple #[v,.int .i64 (zkv hs pl)])∧zjf w' w.heap.size v (if zkv hs pl=0 then pl else [])
theorem zqm.bad {w w':World}{hs:List Hav}{pl:List Syn}{c:Int}(hc:zkv hs pl=c)(h0:c≠0)(hb:Below w.heap.size w w'):zqm w hs pl (.returned (.tuple #[.slice none 0 0,.int .i64 c])) w':=
 ⟨hb,_,by rw[hc],by rw[hc,if_neg h0];exact World.ownsRow_nil _ _ _ _⟩
theorem zqm.good {w w':World}{hs:List Hav}{pl:List Syn}{v:Value}(hc:zkv hs pl=0)(hb:Below w.heap.size w w')(hv:zjf w' w.heap.size v pl):zqm w hs pl (.returned (.tuple #[v,.int .i64 0])) w':=
 ⟨hb,v,by rw[hc],by rw[hc,if_pos rfl];exact hv⟩
theorem zqn (D:List Rev)(n:Nat)(es:List zdd)(m:Int)(hs:List Hav)(op dt:List ByteArray)(dv dr mv hv ov tv:Value)(w:World)(he:Env w)(hR:z45 w dv D)(hE:zdn w mv es)(hD:zmd D n)(hl:D.length≤1000)(hM:znw es)(hS:zfz es)(hf:zfp (zdy es))(hnum:∀ r∈D,1≤r.num)
  (hH:z4b w hv hs) (hsz:∀ x∈hs,x.path.size≤2000000∧x.loc.size≤2000000) (hop:Strs w ov op) (hdt:Strs w tv dt) (hopl:op.length≤1000) (hdtl:dt.length≤1000):
  Calls Tryz.prog 13 #[.agg #[dv,dr],mv,.int .i64 m,hv,ov,tv] w (zqm w hs (zff hs (zfr D (zdy es) m) op dt)):=by
 obtain⟨Ah,ch,rfl,-⟩:=id hH;obtain⟨Ao,co,rfl,-⟩:=id hop;obtain⟨At,ct,rfl,-⟩:=id hdt;obtain⟨Ad,cd,rfl,-⟩:=id hR;have hwok:=zfu (m:=m) hnum hf;have hwl:(zfr D (zdy es) m).length≤6:=zfw;have hA:Below w.heap.size w (w.alloc (.cells #[.slice Ad D.length cd,dr] 27)):=(Below.refl _ _).alloc (Nat.le_refl _) _;have HWN:=hd_ (zo3 D n es m (.slice Ad D.length cd) dr mv _ (he.below hA) (hR.below hA) (hE.below hA) hD hl hM hS hf);have HCK:=hd_ (fun X (hX:Below w.heap.size w X)=>zqj hs (.slice Ah hs.length ch) X (he.below hX) (Row.below hH hX) hsz);obtain⟨d0,d1⟩:=(⟨(z0l w [.slice Ad D.length cd,dr] 27).cell 0,(z0l w [.slice Ad D.length cd,dr] 27).cell 1⟩:(w.alloc (.cells #[.slice Ad D.length cd,dr] 27)).cell? ⟨w.heap.size,0,none⟩=some (.slice Ad D.length cd)∧(w.alloc (.cells #[.slice Ad D.length cd,dr] 27)).cell? ⟨w.heap.size,1,none⟩=some dr);generalize zfr D (zdy es) m=ws at *;generalize hPL:zff hs ws op dt=PL;have HQL:=hd_ hPL;clear hPL;have HE:=hd_ he;have HH:=hd_ hH;have HOP:=hd_ hop;have HDT:=hd_ hdt;have HWOK:=hd_ hwok;have HA:=hd_ hA;clear he hR hE hD hl hM hS hf hnum hH hsz hop hdt hwok hA;go_enter Tryz.func13,Tryz.ntmps13;go_wp2_with fail;refine HWN.out.mono ?_;rintro e w1 ⟨wv,rfl,hwv,hb1⟩;dsimp only;have HB1:=hd_ (z0r HA.out hb1);obtain⟨Aw,cw,rfl⟩:=z0o hwv;have HWV:Hid (z4b w1 (.slice Aw ws.length cw) ws):=hd_ (Row.of_own hwv);have HC:=hd_ (HCK.out w1 HB1.out);clear hb1 hwv d0 d1 HWN HCK HA;go_wp2_with fail;refine HC.out.mono ?_;rintro e w2 ⟨cE,rfl,hcE,hb2⟩;have HB2:=hd_ (z0r HB1.out hb2);have HWV2:=hd_ (Row.below HWV.out hb2);clear hb2 HC;by_cases hE:z4g hs=0
 rotate_left
 ·have HPC:Hid (zkv hs PL=350):=hd_ (if_neg hE);have q0:(cE != 0)=true:=bne_iff_ne.2 (fun h=>hE (hcE.1 h));clear hE hcE;go_wp2_with fail;go_ret2;exact zqm.bad HPC.out (by decide) HB2.out
 obtain⟨hOk,hhl⟩:=zfb.1 hE;have hcz:cE=0:=hcE.2 hE;subst hcz;have HEZ:=hd_ hE;have HST:=hd_ (zql hs ws op dt _ _ _ _ w2 (HE.out.below HB2.out) HWV2.out (Row.below HH.out HB2.out) (HOP.out.below HB2.out) (HDT.out.below HB2.out) hOk HWOK.out hhl (by omega) (by omega) (by omega))
 have HPI:=hd_ (plan_in (op:=op) (dt:=dt) hOk HWOK.out);have HPL:Hid ((zff hs ws op dt).length≤hs.length+ws.length):=hd_ (by unfold zff zfe;rw[markL_len,List.length_map];exact zks _ _ _)
 have HOK:=hd_ hOk;have HPC:Hid (zkv hs (zff hs ws op dt)=if 1024<(z4y hs (zff hs ws op dt)).length then 351 else 0):=hd_ (if_pos hE);clear hE hcE hOk;rw[HQL.out] at HST HPI HPL HPC;go_wp2_with fail;refine HST.out.mono ?_;rintro e w3 ⟨pv,rfl,ho3,hb3⟩;obtain⟨Ap,cp,rfl⟩:=z0o ho3;have HB3:=hd_ (z0r HB2.out hb3);have HO3:=hd_ (z4p ho3 HB2.out.size);have HAF:=hd_ (zqd hs PL (.slice Ah hs.length ch) (.slice Ap PL.length cp) w3 (HE.out.below HB3.out) (Row.below HH.out HB3.out) (Row.of_own ho3) HOK.out.srt (fun a ha=>⟨HOK.out.valid a ha,by have:=zku HOK.out a ha;omega⟩) HPI.out.1 HPI.out.2 (by have:=HPL.out;omega))
 clear ho3 hb3 HST;go_wp2_with fail;refine HAF.out.mono ?_;rintro e w4 ⟨rv,rfl,hr4,hb4⟩;obtain⟨Ar,cr,rfl,-⟩:=id hr4;have HB4:=hd_ (z0r HB3.out hb4);have HO4:=hd_ (z0n HO3.out hb4);clear hr4 hb4 HAF;by_cases hr:1024<(z4y hs PL).length
 ·have HF:=hd_ (HPC.out.trans (if_pos hr));generalize z4y hs PL=RL at hr;go_wp2_with fail;go_ret2;exact zqm.bad HF.out (by decide) HB4.out
 ·have HF:=hd_ (HPC.out.trans (if_neg hr));generalize z4y hs PL=RL at hr;go_wp2_with fail;go_ret2;exact zqm.good HF.out HB4.out HO4.out
