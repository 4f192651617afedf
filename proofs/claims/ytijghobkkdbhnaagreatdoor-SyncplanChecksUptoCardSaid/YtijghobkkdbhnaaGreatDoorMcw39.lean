/- A part. -/
import Derived.Test.YtijghobkkdbhnaaGreatDoorMcw36
import Derived.Test.YtijghobkkdbhnaaGreatDoorMcw32
set_option linter.unusedVariables false
set_option linter.unusedSimpArgs false
set_option maxHeartbeats 8000000
set_option maxRecDepth 100000
namespace Go.Proofs.YtijghobkkdbhnaaGreatDoor
open Go.Proofs.Tryz
open Go.RowKit
def RrFst (W wr:World)(k:Nat)(v:Value)(q:Pat):Prop:=zB W wr∧(k=0→v=.slice none 0 0)∧(k=1→∃(g cap c:Nat) (C:Option Addr),v=.slice (some ⟨g,0,none⟩) 1 cap∧1≤cap∧wr.cell? ⟨g,0,none⟩=some (.slice C q.parts.length c)∧wr.cell? ⟨g,1,none⟩=some (.bool q.rest)∧z9j wr (.slice C q.parts.length c) q)
theorem znf (l r h m:Pat)(A B C:Option Addr)(a b c:Nat)(ad:Addr)(hc:Nat)(w:World)(hl:z9j w (.slice A l.parts.length a) l)(hr:z9j w (.slice C r.parts.length c) r)(hh:z9j w (.slice B h.parts.length b) h)(hn:zck l r h m)(hsym:zn4 l h)(hs2:zn4 r (zcj l r m))(hr2:(zcj l r m).rest=true)(hc1:1≤hc)(h0:w.cell? ad=some (.slice B h.parts.length b))(h1:w.cell? ⟨ad.block,ad.off+1,none⟩=some (.bool h.rest)):
  Calls prog 31 #[.agg #[.slice A l.parts.length a,.bool l.rest,.slice C r.parts.length c,.bool r.rest,.slice (some ad) 1 hc]] w (znd w (.slice C r.parts.length c) r.rest):=by
 obtain⟨W1,hW1⟩:∃ W,W=(w.alloc (.cells #[.slice A l.parts.length a,.bool l.rest,.slice C r.parts.length c,.bool r.rest,.slice (some ad) 1 hc] 71)).alloc (.cells #[.slice none 0 0,.bool false,.slice none 0 0] 78):=⟨_,rfl⟩;have hA:zB w W1:=by rw[hW1];exact ((Below.refl _ _).alloc (Nat.le_refl _) _).alloc (by simp) _
 have hX1:Blk W1 w.heap.size 71 [.slice A l.parts.length a,.bool l.rest,.slice C r.parts.length c,.bool r.rest,.slice (some ad) 1 hc]:=by rw[hW1];exact (z0l w _ _).alloc _
 have h2:Blk W1 (w.heap.size+1) 78 [.slice none 0 0,.bool false,.slice none 0 0]:=by
  rw[hW1];have:=z0l (w.alloc (.cells #[.slice A l.parts.length a,.bool l.rest,.slice C r.parts.length c,.bool r.rest,.slice (some ad) 1 hc] 71)) [.slice none 0 0,.bool false,.slice none 0 0] 78;simp only[World.size_alloc] at this
  exact this
 have HW1:=hd_ hW1;have HA:=hd_ hA;have H1:=hd_ hX1;have H2:=hd_ h2;have HL:=hd_ (fun X (hX:zB w X)=>hl.below hX);have HR:=hd_ (fun X (hX:zB w X)=>hr.below hX);have HH:=hd_ (fun X (hX:zB w X)=>hh.below hX);have HN:=hd_ hn;have HSY:=hd_ hsym;have HS2:=hd_ hs2;have HR2:=hd_ hr2;have HC:Hid (∀ X,zB w X→X.cell? ad=some (.slice B h.parts.length b)∧X.cell? ⟨ad.block,ad.off+1,none⟩=some (.bool h.rest)):=hd_ fun X hX=>⟨z04 h0 hX (z03 h0),z04 h1 hX (z03 h1)⟩;clear hW1 hA hX1 h2 hl hr hh hn hsym hs2 hr2 h0 h1;go_enter func31,ntmps31;go_upto_region 1 with fail;rw[← HW1.out];have y4:W1.cell? ⟨w.heap.size,4,none⟩=some (.slice (some ad) 1 hc):=H1.out.cell 4;clear HW1;go_wp2_with fail;clear y4;go_loopw [4,13] (fun v i wr=>∃ k:Nat,i=.int .i64 k∧k≤1∧Hid (RrFst W1 wr k v (zcj l r m))) (fun _ i _=>1 - (intOf i).toNat)
 case atStart=>exact⟨0,rfl,Nat.zero_le _,hd_ ⟨Below.refl _ _,fun _=>rfl,fun e=>by omega⟩⟩
 case round =>
  obtain⟨k,rfl,hk,HI⟩:=hrel;by_cases hlt:k<1
  ·have hk0:k=0:=by omega
   subst hk0;obtain⟨hlow,hv,-⟩:=HI.out;have hv:=hv rfl;subst hv;obtain⟨s0,s1⟩:=HC.out wr (z0r HA.out hlow);have hX:zB wr (wr.alloc (.cells #[.slice B h.parts.length b,.bool h.rest] 68)):=(Below.refl _ _).alloc (Nat.le_refl _) _;have HX5:Hid (zb5 _ _ _ _):=hd_ (z0l wr [.slice B h.parts.length b,.bool h.rest] 68);have HL5:=hd_ (z0r hlow hX);clear hX hlow HI;go_upto_region 5 with fail;clear s0 s1;generalize wr.alloc (.cells #[.slice B h.parts.length b,.bool h.rest] 68)=W5 at HX5 HL5 ⊢;generalize wr.heap.size=g6 at HX5 ⊢;have HWA:=hd_ (z0r HA.out HL5.out);refine rrR5 _ (by kernel_rfl) _ l r h m A B C (some ad) a b c 1 hc w.heap.size g6 W5 (H1.out.below HL5.out H1.out.lt) HX5.out (HL.out W5 HWA.out) (HH.out W5 HWA.out) (HR.out W5 HWA.out) HN.out HSY.out ?_
   intro eA eB eC eD eE eF eG eH g7 A' C' a' c' w' hb' hc3 hc4 hg7 hin;have HB7:=hd_ (z0r HL5.out hb');have HIN:=hd_ hin;have hc4':w'.cell? ⟨g7,4,none⟩=some (.bool (zcj l r m).rest):=by rw[hc4,HR2.out]
   clear hb' hg7 hin hc4;have hrow:=z0i w' [.slice C' (zcj l r m).parts.length c',.bool (zcj l r m).rest] 68 2 1 rfl (by unfold maxLen;omega) w'.heap.size rfl
   have HON:=hd_ (World.ownsRow_nil (w'.alloc (.cells #[.slice C' (zcj l r m).parts.length c',.bool (zcj l r m).rest] 68)) w'.heap.size 68 2);have HB8:=hd_ (z0r HB7.out ((Below.refl w'.heap.size w').alloc (Nat.le_refl _) (.cells #[.slice C' (zcj l r m).parts.length c',.bool (zcj l r m).rest] 68)));have HIN8:=hd_ (HIN.out.below ((Below.refl w'.heap.size w').alloc (Nat.le_refl _) (.cells #[.slice C' (zcj l r m).parts.length c',.bool (zcj l r m).rest] 68)));go_wp2_with (at_builtin;refine z0j rfl rfl zkq HON.out rfl hrow rfl (by simp [Value.oneCell']) (by omega) (by unfold maxLen;omega) (by simp) ?_;intro A9 c9 w8 hown hgr hob)
   have hb8:=zlp hgr rfl;have HN9:Hid (RrFst W1 w8 1 (.slice A9 (0+1) c9) (zcj l r m)):=hd_ (by
    obtain⟨g,rfl,hcc,q0,q1⟩:=znb hown;exact⟨z0r HB8.out hb8,fun e=>by omega,fun _=>⟨g,c9,c',C',rfl,hcc,q0,q1,HIN8.out.below hb8⟩⟩)
   clear hown hgr hob hb8 hrow hc3 hc4';go_roundw
   case rel=>exact⟨1,by go_num,Nat.le_refl _,HN9⟩
   case measure=>simp [intOf]
  ·have hk1:k=1:=by omega
   subst hk1;obtain⟨hlow,-,hx⟩:=HI.out;obtain⟨g,cap,c7,C7,rfl,hcap,q0,q1,hin⟩:=hx rfl;have HB:=hd_ (z0r HA.out hlow);have hX3:=H1.out.below hlow H1.out.lt;obtain⟨y2,y3⟩:=(⟨hX3.cell 2,hX3.cell 3⟩:wr.cell? ⟨w.heap.size,2,none⟩=some (.slice C r.parts.length c)∧wr.cell? ⟨w.heap.size,3,none⟩=some (.bool r.rest));have HS:=hd_ (znc r (zcj l r m) C C7 c c7 g cap wr (HR.out wr HB.out) hin HS2.out hcap q0 q1);have HE2:=hd_ (H2.out.below hlow H2.out.lt);clear hlow hx hX3 q0 q1 hin HI;go_wp2_with fail;refine HS.out.mono ?_;rintro e w2 ⟨hb,H9,n9,c9,rfl⟩;dsimp only;have HB2:=hd_ (z0r HB.out hb);have HX2:=hd_ (HE2.out.below hb HE2.out.lt);obtain⟨u0,u1,u2⟩:=(⟨HX2.out.cell 0,HX2.out.cell 1,HX2.out.cell 2⟩:w2.cell? ⟨w.heap.size+1,0,none⟩=some (.slice none 0 0)∧w2.cell? ⟨w.heap.size+1,1,none⟩=some (.bool false)∧w2.cell? ⟨w.heap.size+1,2,none⟩=some (.slice none 0 0));obtain⟨f0,f1,f2⟩:=(⟨HX2.out.frozen 0,HX2.out.frozen 1,HX2.out.frozen 2⟩:w2.frozen? ⟨w.heap.size+1,0,none⟩=false∧w2.frozen? ⟨w.heap.size+1,1,none⟩=false∧w2.frozen? ⟨w.heap.size+1,2,none⟩=false);clear hb y2 y3 HS;go_wp2_with fail;have hE:=((HX2.out.set_ 0 (.slice C r.parts.length c)).set_ 1 (.bool r.rest)).set_ 2 (.slice H9 n9 c9);have hb:=((HB2.out.setCell (p:=⟨w.heap.size+1,0,none⟩) (by simp) (.slice C r.parts.length c)).setCell (p:=⟨w.heap.size+1,1,none⟩) (by simp) (.bool r.rest)).setCell (p:=⟨w.heap.size+1,2,none⟩) (by simp) (.slice H9 n9 c9)
   generalize ((w2.setCell ⟨w.heap.size+1,0,none⟩ (.slice C r.parts.length c)).setCell ⟨w.heap.size+1,1,none⟩ (.bool r.rest)).setCell ⟨w.heap.size+1,2,none⟩ (.slice H9 n9 c9)=W8 at hE hb ⊢;have e0:=hE.cell 0;have e1:=hE.cell 1;have e2:=hE.cell 2;exact bodyPost_ret (v:=.tuple #[.agg #[.slice C r.parts.length c,.bool r.rest,.slice H9 n9 c9],.bool true]) (by simp [results,results31,go_sem,e0,e1,e2]) rfl ⟨hb,H9,n9,c9,rfl⟩
theorem znj (w:World)(A:Option Addr)(c:Nat)(es:List zcv)(P:Ending→World→Prop)(hE:zd1 w (.slice A es.length c) es)(hl:es.length≤32)
  (hK:∀ x∈es,∀ X,zB w X→Calls prog 27 #[.agg #[.bool false,x.l.v,.bool x.l.1.rest,x.r.v,.bool x.r.1.rest]] X fun e w'=>e=.returned (.int .i64 0)∧zB X w')
  (hG:∀ x∈es,∀ X,zB w X→Calls prog 29 #[.agg #[x.l.v,.bool x.l.1.rest,x.hv]] X fun e w'=>e=.returned (.int .i64 0)∧zB X w')
  (hR:∀ x∈es,∀ X,zB w X→Calls prog 31 #[x.val] X (znd X x.r.v x.r.1.rest))
  (hT16:∀ T',Tryz.f7.body.bind (zhg 16)=some T'→∀ W',zB w W'→∀(u1 u2 u3 u4 u5 u6 u7 u8 u9 gA gC gD gE gF gG gH gI gJ gK gL gM gN gO gP gQ gR gT gV gW gX gY gZ i6 i7 i8 ia ib ic ie ig ii ij ik il im io ip iq ir iu iv iw ix iy iz iA iB iC iD iE iF iG iH iI iJ iK iL iM iN iO iP iQ iR iS iT iU iV iW iX iY iZ j0 j1 j2 j5 j6 j7 j8 j9 jb jd:Value),T'.wp prog (bodyPost prog Tryz.f7 P) ⟨#[.slice A es.length c,u1,u2,u3,u4,u5,u6,u7,u8,u9,gA,gC,gD,gE,gF,gG,gH,gI,gJ,gK,gL,gM,gN,gO,gP,gQ,gR,gT,gV,gW,gX,gY,gZ,i6,i7,i8,ia,ib,ic,ie,ig,ii,ij,ik,il,im,io,ip,iq,ir,iu,iv,iw,ix,iy,iz,iA,iB,iC,iD,iE,iF,iG,iH,iI,iJ,iK,iL,iM,iN,iO,iP,iQ,iR,iS,iT,iU,iV,iW,iX,iY,iZ,j0,j1,j2,j5,j6,j7,j8,j9,jb,jd],[]⟩ W'):
  Calls prog 7 #[.slice A es.length c] w P:=by
 have HE:=hd_ (fun X (hX:zB w X)=>hE.below hX);have HR:=hd_ hR;have HK:=hd_ hK;have HG:=hd_ hG;have HT:=hd_ hT16;clear hE hR hT16 hK hG;go_enter func7,ntmps7;go_wp2_with fail;go_loopw [20] (fun i wr=>∃ k:Nat,i=.int .i64 k∧k≤es.length∧Hid (zB w wr)) (fun i _=>es.length - (intOf i).toNat)
 case atStart=>exact⟨0,rfl,Nat.zero_le _,hd_ (Below.refl _ _)⟩
 case round =>
  obtain⟨k,rfl,hk,HI⟩:=hrel;by_cases hlt:k<es.length
  ·have HEX:=hd_ (HE.out wr HI.out);obtain⟨ad,rfl,hab,s0,s1,s2,s3,s4⟩:=HEX.out.at_ hlt;have HXI:=hd_ (HEX.out.2 es[k] (List.getElem_mem hlt));have HXK:=hd_ (HK.out es[k] (List.getElem_mem hlt));have HXG:=hd_ (HG.out es[k] (List.getElem_mem hlt));generalize es[k]=x at s0 s1 s2 s3 s4 HXI HXK HXG;obtain⟨H,hc,hhv⟩:=HXI.out.holes;obtain⟨⟨pl,Al,cl⟩,⟨pr,Ar,cr⟩,hv,hs⟩:=x;change hv=.slice H hs.length hc at hhv;subst hhv;change wr.cell? _=some (.slice Al pl.parts.length cl) at s0;change wr.cell? _=some (.bool pl.rest) at s1;change wr.cell? _=some (.slice Ar pr.parts.length cr) at s2;change wr.cell? _=some (.bool pr.rest) at s3;change wr.cell? _=some (.slice H hs.length hc) at s4;have hX:zB wr (wr.alloc (.cells #[.slice Al pl.parts.length cl,.bool pl.rest,.slice Ar pr.parts.length cr,.bool pr.rest,.slice H hs.length hc] 71)):=(Below.refl _ _).alloc (Nat.le_refl _) _;have HX:=hd_ (z0r HI.out hX);have HN:Hid (Blk (wr.alloc (.cells #[.slice Al pl.parts.length cl,.bool pl.rest,.slice Ar pr.parts.length cr,.bool pr.rest,.slice H hs.length hc] 71)) wr.heap.size 71 [.slice Al pl.parts.length cl,.bool pl.rest,.slice Ar pr.parts.length cr,.bool pr.rest,.slice H hs.length hc]):=hd_ (z0l wr _ _);clear hab hX;go_upto_region 4 with fail;generalize wr.alloc (.cells #[.slice Al pl.parts.length cl,.bool pl.rest,.slice Ar pr.parts.length cr,.bool pr.rest,.slice H hs.length hc] 71)=W4 at HX HN ⊢;generalize wr.heap.size=g7 at HN ⊢;clear s0 s1 s2 s3 s4;obtain⟨x0,x1,x2,x3,x4⟩:=(⟨HN.out.cell 0,HN.out.cell 1,HN.out.cell 2,HN.out.cell 3,HN.out.cell 4⟩:W4.cell? ⟨g7,0,none⟩=some (.slice Al pl.parts.length cl)∧W4.cell? ⟨g7,1,none⟩=some (.bool pl.rest)∧W4.cell? ⟨g7,2,none⟩=some (.slice Ar pr.parts.length cr)∧W4.cell? ⟨g7,3,none⟩=some (.bool pr.rest)∧W4.cell? ⟨g7,4,none⟩=some (.slice H hs.length hc));have HLI:=hd_ (zn7 Al Ar pl.parts.length pr.parts.length cl cr pl.rest pr.rest (.slice H hs.length hc) W4);go_wp2_with fail;refine HLI.out.mono ?_;rintro e w5 ⟨rfl,hb5⟩;dsimp only;have HB5:=hd_ (z0r HX.out hb5)
   have HN5:=hd_ (HN.out.below hb5 HN.out.lt);have HC5:Hid (Calls prog 27 #[.agg #[.bool false,.slice Al pl.parts.length cl,.bool pl.rest,.slice Ar pr.parts.length cr,.bool pr.rest]] w5 fun e w'=>e=.returned (.int .i64 0)∧zB w5 w'):=hd_ (HXK.out w5 HB5.out);clear hb5 x0 x1 x2 x3 x4 HLI;go_wp2_with fail;refine HC5.out.mono ?_;rintro e w6 ⟨rfl,hb6⟩;dsimp only;have HB6:=hd_ (z0r HB5.out hb6);have HN6:=hd_ (HN5.out.below hb6 HN5.out.lt);clear hb6 HC5;obtain⟨x0,x1,x2,x3,x4⟩:=(⟨HN6.out.cell 0,HN6.out.cell 1,HN6.out.cell 2,HN6.out.cell 3,HN6.out.cell 4⟩:w6.cell? ⟨g7,0,none⟩=some (.slice Al pl.parts.length cl)∧w6.cell? ⟨g7,1,none⟩=some (.bool pl.rest)∧w6.cell? ⟨g7,2,none⟩=some (.slice Ar pr.parts.length cr)∧w6.cell? ⟨g7,3,none⟩=some (.bool pr.rest)∧w6.cell? ⟨g7,4,none⟩=some (.slice H hs.length hc));have HLE:=hd_ (zn8 Al H pl.parts.length cl hs.length hc pl.rest pr.rest (.slice Ar pr.parts.length cr) w6);go_wp2_with fail;refine HLE.out.mono ?_;rintro e w7 ⟨rfl,hb7⟩;dsimp only;have HB7:=hd_ (z0r HB6.out hb7);have HC7:Hid (Calls prog 29 #[.agg #[.slice Al pl.parts.length cl,.bool pl.rest,.slice H hs.length hc]] w7 fun e w'=>e=.returned (.int .i64 0)∧zB w7 w'):=hd_ (HXG.out w7 HB7.out);clear hb7 x0 x1 x2 x3 x4 HLE;go_wp2_with fail;refine HC7.out.mono ?_;rintro e w8 ⟨rfl,hb8⟩;dsimp only;have HB8:=hd_ (z0r HB7.out hb8);clear hb8 HC7;go_wp2_with fail;go_roundw
   case rel=>exact⟨k+1,by go_num,by omega,HB8⟩
   case measure=>simp [intOf];omega
  ·have hke:k=es.length:=by omega
   subst hke;have HB:=hd_ HI.out;have hge:¬((es.length:Int)<(es.length:Int)):=by omega
   have h32:¬((32:Int)<(es.length:Int)):=by omega
   have HT9:=hd_ (fun(T:Code) hT=>rcT9 T hT P wr A c es (HE.out wr HB.out) hl (fun x hx X hX=>HR.out x hx X (z0r HB.out hX)) (fun T' hT' W' hW'=>HT.out T' hT' W' (z0r HB.out hW')));clear HI;go_upto_region 7 with fail;rename ∀ a w,Code.wp _ (Code.seq (Code.seq (Code.region 9 _ _) _) _) _ a w→_=>hk7
   have HK7:=hd_ hk7;clear hk7;go_wp2_with fail;exact HK7.out _ _ (HT9.out _ (by kernel_rfl) _ _ _ _ _ _ _ _ _ _ _ _ _ _ _ _ _ _ _ _ _ _ _ _ _ _ _ _ _ _ _ _ _ _ _ _ _ _ _ _ _ _ _ _ _ _ _ _ _ _ _ _ _ _ _ _ _ _ _ _ _ _ _ _ _ _ _ _ _ _ _ _ _ _ _ _ _ _ _ _ _ _ _ _ _ _ _ _ _ _ _)
theorem znp (p:Pat)(b:Bool)(hbr:p.rest=b)(caps:List ByteArray)(A:Option Addr)(a:Nat)(cv:Value)(w:World)(he:Env w)(hp:z9j w (.slice A p.parts.length a) p)(hc:Strs w cv caps)(hf:zba p caps):
  Calls prog 196 #[.agg #[.slice A p.parts.length a,.bool b],cv] w fun e w'=>e=.returned (.tuple #[.string (zb9 p caps),.int .i64 0])∧zB w w':=by
 have hB:=z0l w [.slice A p.parts.length a,.bool b] 68;have hA:zB w (w.alloc (.cells #[.slice A p.parts.length a,.bool b] 68)):=(Below.refl _ _).alloc (Nat.le_refl _) _;have HKC:Hid (∀ X,zB w X→Calls prog 60 #[.agg #[.slice A p.parts.length a,.bool b]] X fun e w'=>e=.returned (.int .i64 0)∧zB X w'):=hd_ (fun X hX=>by have:=zcc p A a X (hp.below hX).1 hp.small;rw[hbr,hf.pat] at this;exact this)
 have HW:=hd_ (fun X (hX:zB w X)=>znl p b hbr A a X (hp.below hX) hf.pat);have HP:=hd_ hp;have HC:=hd_ hc;have HF:=hd_ hf;have HE:=hd_ he;have hl12:=za7 hf.pat;have hs12:z9c p≤12:=Nat.le_trans (List.length_filter_le ..) hl12;obtain⟨Ac,cc,rfl,-⟩:=id hc;obtain⟨nc,hnc⟩:∃ nc,caps.length=nc:=⟨_,rfl⟩;have hlen:nc=z9c p+(if b then 1 else 0):=hnc.symm.trans (by rw[hf.len,hbr])
 have HNC:=hd_ hnc;rw[hnc];have HBR:=hd_ hbr;clear hp hc hf he hnc hbr;rw[← hlen] at HW;have HLEN:=hd_ hlen;have q0:((nc:Int) != (nc:Int))=false:=by simp
 clear hlen;go_enter func196,ntmps196;go_upto_region 1 with fail;generalize w.alloc (.cells #[.slice A p.parts.length a,.bool b] 68)=W1 at hB hA ⊢;have d0:W1.cell? ⟨w.heap.size,0,none⟩=some (.slice A p.parts.length a):=hB.cell 0;have d1:W1.cell? ⟨w.heap.size,1,none⟩=some (.bool b):=hB.cell 1;have HB:=hd_ hB;have HA:=hd_ hA;have HK1:=hd_ (HKC.out W1 hA);clear hB hA HKC;go_wp2_with fail;refine HK1.out.mono ?_;rintro e w2 ⟨rfl,hb⟩;dsimp only;have HA2:=hd_ (z0r HA.out hb);have HB2:=hd_ (HB.out.below hb HB.out.lt);have HW2:=hd_ (HW.out w2 HA2.out);clear hb d0 d1 HK1 HB HA HW;have d0:w2.cell? ⟨w.heap.size,0,none⟩=some (.slice A p.parts.length a):=HB2.out.cell 0;have d1:w2.cell? ⟨w.heap.size,1,none⟩=some (.bool b):=HB2.out.cell 1;go_wp2_with fail;refine HW2.out.mono ?_;rintro e w3 ⟨rfl,hb⟩;dsimp only;have HA3:=hd_ (z0r HA2.out hb);have HB3:=hd_ (HB2.out.below hb HB2.out.lt);clear hb d0 d1 HW2 HB2 HA2;have d0:w3.cell? ⟨w.heap.size,0,none⟩=some (.slice A p.parts.length a):=HB3.out.cell 0;go_wp2_with fail;go_loopw [7,8,28] (fun av z i wr=>∃(k:Nat) (done:List ByteArray) (A2:Option Addr) (c2:Nat),i=.int .i64 k∧z=.int .i64 (z9b p.parts k)∧av=.slice A2 k c2∧k≤p.parts.length∧Hid (RfSt w3 wr p.parts caps k done av)) (fun _ _ i _=>p.parts.length - (intOf i).toNat)
 case atStart=>exact⟨0,[],_,_,rfl,by simp [z9b],rfl,Nat.zero_le _,hd_ ⟨Below.refl _ _,World.ownsRow_nil _ _ _ _,rfl,by simp [z9b]⟩⟩
 case round =>
  obtain⟨k,done,A2,c2,rfl,rfl,rfl,hk,HI⟩:=hrel;clear d0;by_cases hlt:k<p.parts.length
  ·have HPX:=hd_ (HP.out.below (z0r HA3.out HI.out.low));obtain⟨ad,rfl,hab,s0⟩:=Strs.at_ HPX.out.1 hlt;have hform:=zce HF.out.pat hlt;have HT:Hid (∀ X,Calls prog 111 #[.string p.parts[k]] X fun e w'=>e=.returned (.tuple #[.string (if z7b p.parts[k] then z82 p.parts[k] else z2q),.bool (z7b p.parts[k])])∧X=w'):=hd_ (fun X=>by
    have:=zc4 p.parts[k] X (HP.out.small _ (List.getElem_mem hlt));unfold zc1 at this;rw[zbs hform] at this;exact this)
   have HSZ:=hd_ (HP.out.2 _ (List.getElem_mem hlt));have HLT:=hd_ hlt;have HSP:=hd_ (fun wy av'=>HI.out.plain (wy:=wy) (av':=av') hlt);have HSS:=hd_ (fun wy av' r c=>HI.out.star (wy:=wy) (av':=av') (r:=r) (c:=c) hlt);have HRM:=hd_ (fun h=>zbg hlt h);have HNX:=hd_ (z9d hlt);have HSU:=hd_ (show (z82 p.parts[k]).size≤p.parts[k].size from by unfold z82;rw[ByteArray.size_extract];omega)
   generalize p.parts[k]=part at s0 HT HSP HSS HRM HSZ HNX HSU;obtain⟨st,hst⟩:∃ st,z7b part=st:=⟨_,rfl⟩;have HST:=hd_ hst;rw[hst] at HT HNX;clear hst hab hform;have HOW:=hd_ HI.out.own;have HBI:=hd_ HI.out.low;cases st with
   | false =>
    have hnx:z9b p.parts (k+1)=z9b p.parts k:=by rw[HNX.out];rfl
    have HNX2:=hd_ hnx;clear hnx;go_wp2_with fail;refine (HT.out _).mono ?_;rintro e w' ⟨rfl,rfl⟩;dsimp only;go_wp2_with (at_builtin;refine z0k rfl rfl z89 (z0n HOW.out ((Below.refl _ _).alloc (Nat.le_refl _) _)) rfl (z0i _ [.string part] _ 1 1 rfl (by decide) _ (by simp)) rfl (HBI.out.alloc HBI.out.size _) (HBI.out.alloc HBI.out.size _).size (by simp [Value.oneCell']) (by omega) (by unfold maxLen;omega) ?_;intro A' c' w5 hown5 hbl5)
    have HN:=hd_ (HSP.out w5 (.slice A' (k+1) c') HST.out hbl5 (by rw[List.map_append];exact hown5))
    clear hown5 hbl5;go_wp2_with fail;go_roundw
    case rel=>exact⟨k+1,done++[part],_,_,by go_num,by rw[HNX2.out],rfl,by have:=HLT.out;omega,HN⟩
    case measure=>have:=HLT.out;simp [intOf];omega
   | true =>
    have hroom:=HRM.out HST.out;have h3:=HF.out.len;have hlc:z9b p.parts k<caps.length:=by omega
    obtain⟨ad3,rfl,hab3,t0⟩:=Strs.at_ (A:=Ac) (c:=cc) (by have:=HC.out.below (z0r HA3.out HI.out.low);exact this) hlc
    have hcr:caps.drop (z9b p.parts k)=caps[z9b p.parts k] :: caps.drop (z9b p.parts k+1):=List.drop_eq_getElem_cons hlc;have hmem:caps[z9b p.parts k]∈caps.take (z9c p):=List.mem_take_iff_getElem.2 ⟨z9b p.parts k,by omega,rfl⟩
    generalize caps[z9b p.parts k]=c at t0 hcr hmem;have HCO:=hd_ (fun X=>z8z c X (by have:=HF.out.size c (List.mem_of_mem_take hmem);unfold maxLen;omega))
    rw[HF.out.comp c hmem] at HCO;have HCR:=hd_ hcr;have hcz:c.size≤1000000:=HF.out.size c (List.mem_of_mem_take hmem);have z0:(z9b p.parts k:Int)<(nc:Int):=by have:=HNC.out;omega
    have HS12:Hid (z9b p.parts k≤12):=hd_ (by omega)
    have hnx:z9b p.parts (k+1)=z9b p.parts k+1:=by rw[HNX.out];rfl
    have HNX2:=hd_ hnx;have hsu:(z82 part).size≤1000000:=Nat.le_trans HSU.out HSZ.out;have z1:¬ 9223372036854775807<c.size+(z82 part).size:=by omega
    have q9:IntKind.i64.wrap ((z9b p.parts k:Int)+1)=((z9b p.parts k+1:Nat):Int):=by rw[IntKind.wrap_i64];have:=HS12.out;omega
    generalize hsf:z82 part=sf at HT HSS z1;clear hcr hab3 hmem hroom h3 hlc hnx hsf;go_wp2_with fail;refine (HT.out _).mono ?_;rintro e w' ⟨rfl,rfl⟩;dsimp only;go_wp2_with fail;refine (HCO.out _).mono ?_;rintro e w' ⟨rfl,rfl⟩;dsimp only;clear s0;go_wp2_with (at_builtin;refine z0k rfl rfl z89 (z0n HOW.out ((Below.refl _ _).alloc (Nat.le_refl _) _)) rfl (z0i _ [.string (c++sf)] _ 1 1 rfl (by decide) _ (by simp)) rfl (HBI.out.alloc HBI.out.size _) (HBI.out.alloc HBI.out.size _).size (by simp [Value.oneCell']) (by omega) (by unfold maxLen;omega) ?_;intro A' c' w5 hown5 hbl5)
    have HN:=hd_ (HSS.out w5 (.slice A' (k+1) c') _ c HST.out HCR.out hbl5 (by rw[List.map_append];exact hown5))
    clear hown5 hbl5;go_wp2_with fail;go_roundw
    case rel=>exact⟨k+1,done++[c++sf],_,_,by go_num,by rw[HNX2.out];first | rfl | (simp;done) | (congr 1;have:=HS12.out;simp [wrap64];omega),rfl,by have:=HLT.out;omega,HN⟩
    case measure=>have:=HLT.out;simp [intOf];omega
  ·have hke:k=p.parts.length:=by omega
   subst hke;have HFA:Hid (zb7 p.parts caps=done):=hd_ (by
    have:=HI.out.is;rw[List.drop_length] at this;rw[← this];unfold zb7;simp)
   have hge:¬((p.parts.length:Int)<(p.parts.length:Int)):=by omega
   have HOW:=hd_ HI.out.own;have HLW:=hd_ HI.out.low;have HLN:=hd_ HI.out.len;have d1:wr.cell? ⟨w.heap.size,1,none⟩=some (.bool b):=(HB3.out.below HLW.out HB3.out.lt).cell 1;cases b with
   | false =>
    have HFB:Hid (zb8 p caps=done):=hd_ (by unfold zb8;rw[HBR.out,HFA.out];simp)
    have hpos:0<p.parts.length:=by have h1:=HF.out.some;rw[HFB.out,HLN.out] at h1;exact h1
    obtain⟨gq,cq,eq⟩:=z0s HOW.out hpos;injection eq with eq1 eq2 eq3
    subst eq1 eq3;have hJ:=z9a (done.map (·.data.toList)) gq 0 c2 wr (fun j hj=>by
     rw[List.length_map] at hj;rw[Nat.zero_add];have:=(z9x HOW.out (j:=j) (u:=.string done[j]) (by rw[List.getElem?_map,List.getElem?_eq_getElem hj];rfl)).1
     exact this.trans (by rw[zbb])) (by rw[List.length_map,HLN.out];exact hpos) (by rw[List.length_map,HLN.out];exact (zbc HOW.out).1) (by rw[List.length_map,HLN.out];omega) (by have:=HF.out.join;rw[HFB.out] at this;omega)
    rw[List.length_map,HLN.out] at hJ;have HJ:=hd_ hJ;have HST:Hid (zb9 p caps=baL (z8q (done.map (·.data.toList)))):=hd_ (by unfold zb9;rw[HFB.out])
    clear hJ HI;go_wp2_with fail;refine HJ.out.mono ?_;rintro e w6 ⟨rfl,hb6⟩;dsimp only;have HB6:=hd_ (z0r HA3.out (z0r HLW.out hb6));clear hb6;go_wp2_with fail;go_ret2;exact⟨by rw[HST.out];rfl,HB6.out⟩
   | true =>
    have hdl:(caps.drop (z9c p)).length=1:=by rw[List.length_drop,HF.out.len,HBR.out];simp
    obtain⟨c,hcc⟩:=List.length_eq_one_iff.1 hdl;have hlc:z9c p<caps.length:=by rw[HNC.out];have:=HLEN.out;simp at this;omega
    have e5:caps[z9c p]=c:=by have h5:=List.drop_eq_getElem_cons hlc;rw[hcc] at h5;injection h5 with h5 _;exact h5.symm
    obtain⟨ad3,rfl,hab3,t0⟩:=Strs.at_ (A:=Ac) (c:=cc) (by have:=HC.out.below (z0r HA3.out HLW.out);exact this) hlc
    rw[e5] at t0;have hcm:c∈caps:=List.mem_of_mem_drop (by rw[hcc];exact List.mem_cons_self ..)
    have HCZ:=hd_ (HF.out.size c hcm);have HCL:=hd_ (HF.out.last HBR.out c (by rw[hcc];exact List.mem_cons_self ..))
    have HFB:Hid (zb8 p caps=done++[c]):=hd_ (by unfold zb8;rw[HBR.out,HFA.out,if_pos rfl,hcc])
    have HSP:=hd_ (z73 c wr (HE.out.below (z0r HA3.out HLW.out)) (by have:=HCZ.out;omega))
    have HSN:=hd_ (fun q (hq:q∈z1f c.data.toList)=>(z1j hq).2);have HJN:Hid (Lib.join ((done.map (·.data.toList))++z1f c.data.toList) [47]=Lib.join ((zb8 p caps).map (·.data.toList)) [47]):=hd_ (by rw[zno,HFB.out,List.map_append];rfl)
    have HPO:Hid (0<(z1f c.data.toList).length):=hd_ (List.length_pos_iff.2 (z1g _));have hn0:(z9b p.parts p.parts.length:Int)<(nc:Int):=by rw[z9e,← HNC.out];omega
    rw[z9e] at hn0 ⊢;clear hdl hcc hab3 hcm e5 hlc HI;go_wp2_with fail;refine HSP.out.mono ?_;rintro e w5 ⟨rfl,hw5⟩;dsimp only;have hb5:zB wr w5:=hw5 ▸ (Below.refl _ _).alloc (Nat.le_refl _) _;have hk5:Blk w5 wr.heap.size 9 (z6x (z1f c.data.toList)):=hw5 ▸ z0l wr _ _;have HL5:=hd_ (z0r HLW.out hb5);have HK5:=hd_ hk5;have HO5:=hd_ (z0n HOW.out hb5);have HNE:Hid ((Value.slice A2 p.parts.length c2).ownBlock≠some wr.heap.size):=hd_ (fun e=>by have:=(HOW.out.lt _ e).2;omega)
    have hsl:(z1f c.data.toList).length≤1000001:=by have:=z1l c.data.toList;have h2:=HCZ.out;have:c.data.toList.length=c.size:=rfl;omega
    clear hw5 hb5 hk5 t0 d1 hn0;generalize wr.heap.size=g5 at HK5 HNE ⊢;generalize z1f c.data.toList=ps at HCL HSN HK5 HJN HPO hsl ⊢;go_wp2_with fail;go_loopw [7,65] (fun av i wr=>∃(j:Nat) (A4:Option Addr) (c4:Nat),i=.int .i64 j∧av=.slice A4 (p.parts.length+j) c4∧j≤ps.length∧Hid (zB w3 wr∧Blk wr g5 9 (z6x ps)∧wr.ownsRow w3.heap.size 9 1 av (p.parts.length+j) ((done++(ps.take j).map baL).map .string)∧av.ownBlock≠some g5)) (fun _ i _=>ps.length - (intOf i).toNat)
    case atStart=>exact⟨0,_,_,rfl,rfl,Nat.zero_le _,hd_ ⟨HL5.out,HK5.out,by simpa using HO5.out,HNE.out⟩⟩
    case round =>
     obtain⟨j,A4,c4,rfl,rfl,hj,HI⟩:=hrel;by_cases hlt:j<ps.length
     ·have t1:=HI.out.2.1.strs j hlt;have HCO:=hd_ (fun X=>z8z (baL ps[j]) X (by rw[z6z];have:=HSN.out _ (List.getElem_mem hlt);have:=HCZ.out;have:c.data.toList.length=c.size:=rfl;unfold maxLen;omega))
      have hcp:z12 (baL ps[j])=true:=List.all_eq_true.1 HCL.out _ (List.getElem_mem hlt);rw[hcp] at HCO;have HTK:Hid ((ps.take (j+1)).map baL=(ps.take j).map baL++[baL ps[j]]):=hd_ (by rw[List.take_succ_eq_append_getElem hlt,List.map_append];rfl)
      generalize baL ps[j]=pk at t1 HCO HTK;have HLT:=hd_ hlt;have HOW:=hd_ (z0n HI.out.2.2.1 ((Below.refl wr.heap.size wr).alloc (Nat.le_refl _) (.cells #[.string pk] 9)));have HBW:=hd_ (HI.out.1.alloc HI.out.1.size (.cells #[.string pk] 9));have HKW:=hd_ (HI.out.2.1.alloc (.cells #[.string pk] 9));have hrow:=z0i wr [.string pk] 9 1 1 rfl (by unfold maxLen;omega) wr.heap.size rfl
      clear hcp;go_wp2_with fail;refine (HCO.out _).mono ?_;rintro e w' ⟨rfl,rfl⟩;dsimp only;go_wp2_with (at_builtin;refine z0j rfl rfl zl2 HOW.out rfl hrow rfl (by simp [Value.oneCell']) (by omega) (by unfold maxLen;omega) HBW.out.size ?_;intro A' c' w6 hown hgr hob)
      have HN:Hid (zB w3 w6∧Blk w6 g5 9 (z6x ps)∧w6.ownsRow w3.heap.size 9 1 (.slice A' (p.parts.length+j+1) c') (p.parts.length+j+1) ((done++(ps.take (j+1)).map baL).map .string)∧(Value.slice A' (p.parts.length+j+1) c').ownBlock≠some g5):=hd_ ⟨znm HBW.out hgr (fun k e=>(HOW.out.lt k e).1),HKW.out.grown hgr (fun e=>HI.out.2.2.2 e.symm),by rw[HTK.out,← List.append_assoc,List.map_append];exact hown,by
       rcases hob with e | e
       ·rw[e];exact HI.out.2.2.2
       ·rw[e];intro e2;injection e2 with e2;have:=HI.out.2.1.lt;simp at e2;omega⟩
      clear hown hgr hob hrow t1;go_wp2_with fail;go_roundw
      case rel=>exact⟨j+1,A',c',by go_num,by first | rfl | simp [Nat.add_assoc],by have:=HLT.out;omega,HN⟩
      case measure=>have:=HLT.out;simp [intOf];omega
     ·have hke:j=ps.length:=by omega
      subst hke;have hge2:¬((ps.length:Int)<(ps.length:Int)):=by omega
      have HO6:Hid (wr.ownsRow w3.heap.size 9 1 (.slice A4 (p.parts.length+ps.length) c4) (p.parts.length+ps.length) ((done++ps.map baL).map .string)):=hd_ (by have:=HI.out.2.2.1;rw[List.take_length] at this;exact this)
      have HB6:=hd_ HI.out.1;obtain⟨gq,cq,eq⟩:=z0s HO6.out (by have:=HPO.out;omega)
      injection eq with eq1 eq2 eq3
      subst eq1 eq3;have hll:((done++ps.map baL).map (·.data.toList)).length=p.parts.length+ps.length:=by rw[List.length_map,List.length_append,List.length_map,HLN.out]
      have hml:(done++ps.map baL).map (·.data.toList)=done.map (·.data.toList)++ps:=by rw[List.map_append,List.map_map];congr 1;simp [Function.comp_def,baL]
      have hJ:=z9a ((done++ps.map baL).map (·.data.toList)) gq 0 c4 wr (fun j hj=>by
       rw[List.length_map] at hj;rw[Nat.zero_add];have:=(z9x HO6.out (j:=j) (u:=.string (done++ps.map baL)[j]) (by rw[List.getElem?_map,List.getElem?_eq_getElem hj];rfl)).1
       exact this.trans (by rw[zbb])) (by rw[hll];have:=HPO.out;omega) (by rw[hll];exact (zbc HO6.out).1) (by rw[hll];omega) (by rw[hml,HJN.out];have:=HF.out.join;omega)
      rw[hll] at hJ;have HJ:=hd_ hJ;have HST:Hid (zb9 p caps=baL (z8q ((done++ps.map baL).map (·.data.toList)))):=hd_ (by unfold zb9 z8q;rw[hml,HJN.out])
      clear hJ HI hll hml;go_wp2_with fail;refine HJ.out.mono ?_;rintro e w7 ⟨rfl,hb7⟩;dsimp only;have HB7:=hd_ (z0r HA3.out (z0r HB6.out hb7));clear hb7;go_wp2_with fail;go_ret2;exact⟨by rw[HST.out];rfl,HB7.out⟩
theorem znq (p:Pat)(caps:List ByteArray)(A:Option Addr)(a:Nat)(cv:Value)(w:World)(he:Env w)(hp:z9j w (.slice A p.parts.length a) p)(hc:Strs w cv caps)(hf:zba p caps):
  Calls prog 196 #[.agg #[.slice A p.parts.length a,.bool p.rest],cv] w fun e w'=>e=.returned (.tuple #[.string (zb9 p caps),.int .i64 0])∧zB w w':=znp p p.rest rfl caps A a cv w he hp hc hf
