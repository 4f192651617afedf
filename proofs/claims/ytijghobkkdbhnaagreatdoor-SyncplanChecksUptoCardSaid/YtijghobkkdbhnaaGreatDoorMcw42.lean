/- A part. -/
import Derived.Test.YtijghobkkdbhnaaGreatDoorMcw37
import Derived.Test.YtijghobkkdbhnaaGreatDoorMcw41
set_option linter.unusedVariables false
set_option linter.unusedSimpArgs false
set_option maxHeartbeats 8000000
set_option maxRecDepth 100000
namespace Go.Proofs.YtijghobkkdbhnaaGreatDoor
open Go.Proofs.Tryz
open Go.RowKit
structure KnS (w X:World)(g bl be bn gs:Nat)(Ae:Option Addr)(ce:Nat):Prop where
 bel:zB w X
 chk:Chk X g (.slice none 0 0) (.slice none 0 0) 1 ⟨#[]⟩ ⟨#[]⟩ (.slice Ae 2 ce) (.slice none 0 0) bl be bn
 last:z7t X bl zg8
 ne:bl≠be
 eds:KnE X Ae ce
 boxD:Blk X w.heap.size 27 [.slice none 0 0,.slice none 0 0]
 boxC:Blk X (w.heap.size+1) 105 [.int .i64 1,.string ⟨#[]⟩,.string ⟨#[]⟩,.slice Ae 2 ce,.slice none 0 0]
 boxR:Blk X (w.heap.size+1+1) 27 [.slice none 0 0,.slice none 0 0]
 stp:Blk X gs 152 [.func (.func 140) #[.pointer (some ⟨g,0,none⟩)] #[],.func (.func 141) #[.pointer (some ⟨g,0,none⟩)] #[],.func (.func 142) #[.pointer (some ⟨g,0,none⟩)] #[],.func (.func 143) #[.pointer (some ⟨g,0,none⟩)] #[],.func (.func 144) #[.pointer (some ⟨g,0,none⟩)] #[]]
theorem KnS.below {w X X':World}{g bl be bn gs:Nat}{Ae:Option Addr}{ce:Nat}(h:KnS w X g bl be bn gs Ae ce)(hb:zB X X'):KnS w X' g bl be bn gs Ae ce:=
 ⟨z0r h.bel hb,h.chk.below hb h.chk.lt,z2k.below h.last hb,h.ne,h.eds.below hb,h.boxD.below hb h.boxD.lt,h.boxC.below hb h.boxC.lt,h.boxR.below hb h.boxR.lt,h.stp.below hb h.stp.lt⟩
theorem KnS.every {w X X':World}{g bl be bn gs:Nat}{Ae:Option Addr}{ce:Nat}(h:KnS w X g bl be bn gs Ae ce)(ho:∃ es c,X.heap[be]? = some (.map es c))(hg:X.grownBy X' (some be))(hle:w.heap.size≤be):KnS w X' g bl be bn gs Ae ce:=
 ⟨h.bel.grown hg h.bel.size (fun k e=>by injection e with e;omega),Blk.turn h.chk ho hg,z2k.grown h.last hg (by intro e;injection e with e;exact h.ne e),h.ne,Row.turn h.eds (by decide) ho hg,Blk.turn h.boxD ho hg,Blk.turn h.boxC ho hg,Blk.turn h.boxR ho hg,Blk.turn h.stp ho hg⟩
def KnAp (w:World)(e:Ending)(w':World):Prop:=∃(A:Option Addr) (c:Nat) (A2:Option Addr) (c2:Nat),e=.returned (.tuple #[.agg #[.slice A 2 c,.slice A2 0 c2],.int .i64 0])∧z4c w' (.slice A 2 c) knD∧zB w w'
theorem zmn {k:Nat}{p:ByteArray}(hk:k<2)(h0:k=0→p=knA)(h1:k=1→p=knB):(knD.take (k+1)).flatMap Rev.cells=(knD.take k).flatMap Rev.cells++[.string p,.int .i64 1,.int .i64 1,.int .i64 1,.int .i64 1,.bool false,.bool false,.bool false,.int .u64 1,.int .i64 1,.string ⟨#[]⟩,.int .i64 0]:=by
 rcases (by omega:k=0∨k=1) with rfl | rfl
 ·rw[h0 rfl];rfl
 ·rw[h1 rfl];rfl
theorem zmo (Ae:Option Addr)(ce:Nat)(w:World)(hE:KnE w Ae ce):Calls prog 41 #[.agg #[.slice none 0 0,.slice none 0 0],.agg #[.int .i64 1,.string ⟨#[]⟩,.string ⟨#[]⟩,.slice Ae 2 ce,.slice none 0 0]] w (KnAp w):=by
 obtain⟨W1,hW1⟩:∃ W,W=((w.alloc (.cells #[.slice none 0 0,.slice none 0 0] 27)).alloc (.cells #[.int .i64 1,.string ⟨#[]⟩,.string ⟨#[]⟩,.slice Ae 2 ce,.slice none 0 0] 105)).alloc (.cells #[.slice none 0 0,.slice none 0 0] 27):=⟨_,rfl⟩;have hb1:zB w W1:=by rw[hW1];exact (((Below.refl _ _).alloc (Nat.le_refl _) _).alloc (by simp) _).alloc (by simp;omega) _
 have hs1:W1.heap.size=w.heap.size+1+1+1:=by rw[hW1];simp
 have hB1:Blk W1 w.heap.size 27 [.slice none 0 0,.slice none 0 0]:=by rw[hW1];exact ((z0l w _ _).alloc _).alloc _
 have hB2:Blk W1 (w.heap.size+1) 105 [.int .i64 1,.string ⟨#[]⟩,.string ⟨#[]⟩,.slice Ae 2 ce,.slice none 0 0]:=by
  rw[hW1];have:=z0l (w.alloc (.cells #[.slice none 0 0,.slice none 0 0] 27)) [.int .i64 1,.string ⟨#[]⟩,.string ⟨#[]⟩,.slice Ae 2 ce,.slice none 0 0] 105;simp only[World.size_alloc] at this
  exact this.alloc _
 have hB3:Blk W1 (w.heap.size+1+1) 27 [.slice none 0 0,.slice none 0 0]:=by
  rw[hW1];have:=z0l ((w.alloc (.cells #[.slice none 0 0,.slice none 0 0] 27)).alloc (.cells #[.int .i64 1,.string ⟨#[]⟩,.string ⟨#[]⟩,.slice Ae 2 ce,.slice none 0 0] 105)) [.slice none 0 0,.slice none 0 0] 27;simp only[World.size_alloc] at this
  exact this
 have HW1:=hd_ hW1;have HNC:=hd_ (knNew Ae ce W1);have HE:=hd_ hE;clear hW1 hE;go_enter func41,ntmps41;obtain⟨c0,c1,-,-⟩:=box2 hB1;obtain⟨d0,d1,d2,d3,d4⟩:=zhi hB2;go_upto_region 1 with fail;rw[← HW1.out];go_wp2_with fail;refine HNC.out.mono ?_;rintro e w2 ⟨g,bl,be,bn,rfl,hK2⟩;have HK2:=hd_ hK2;clear c0 c1 d0 d1 d2 d3 d4 hK2;go_wp2_with fail;refine (knSteps g w2).mono ?_;rintro e w3 ⟨rfl,hb3,hs3⟩;have HST:Hid (KnS w w3 g bl be bn w2.heap.size Ae ce):=hd_ (by
  have k:=HK2.out;have hb13:zB W1 w3:=z0r k.bel hb3;have hbw:zB w w3:=z0r hb1 hb13;exact⟨hbw,k.chk.below hb3 k.chk.lt,z2k.below k.last hb3,k.ne,KnE.below HE.out hbw,hB1.below hb13 hB1.lt,hB2.below hb13 hB2.lt,hB3.below hb13 hB3.lt,hs3⟩)
 have HEM:Hid (∃ F,z7u w3 be F):=hd_ (by obtain⟨F,hF⟩:=HK2.out.edt;exact⟨F,z2k.below hF hb3⟩)
 have HLE:Hid (w.heap.size≤be):=hd_ (by have:=HK2.out.le;omega)
 clear hb3 hs3 hB1 hB2 hB3 hb1 hs1 HK2 HNC HW1;generalize w2.heap.size=gs at HST ⊢;go_wp2_with fail;refine wp_loop_rounds 6 ?_;rw[rounds_succ];have t0:w3.cell? ⟨gs,0,none⟩=some (.func (.func 140) #[.pointer (some ⟨g,0,none⟩)] #[]):=HST.out.stp.cell 0;have HZ0:=hd_ (knSize g bl be bn Ae ce w3 HST.out.chk);go_wp2_with fail;refine HZ0.out.mono ?_;rintro e v0 ⟨rfl,hv⟩;have HS0:=hd_ (HST.out.below hv);have HEM0:Hid (∃ F,z7u v0 be F):=hd_ (by obtain⟨F,hF⟩:=HEM.out;exact⟨F,z2k.below hF hv⟩)
 clear hv t0 HZ0 HST HEM;go_wp2_with fail;rw[rounds_succ];have t1:v0.cell? ⟨gs,1,none⟩=some (.func (.func 141) #[.pointer (some ⟨g,0,none⟩)] #[]):=HS0.out.stp.cell 1;obtain⟨F,hF⟩:=HEM0.out;have HOB:=hd_ (z2k.obj hF);have HZ1:=hd_ (knEvery g bl be bn Ae ce v0 HS0.out.chk HS0.out.last HS0.out.ne HS0.out.eds hF);clear hF HEM0;go_wp2_with fail;refine HZ1.out.mono ?_;rintro e v1 ⟨rfl,hv⟩;have HS1:=hd_ (HS0.out.every HOB.out hv HLE.out);clear hv t1 HZ1 HS0 HOB;go_wp2_with fail;rw[rounds_succ];have t2:v1.cell? ⟨gs,2,none⟩=some (.func (.func 142) #[.pointer (some ⟨g,0,none⟩)] #[]):=HS1.out.stp.cell 2;have HZ2:=hd_ (knMoves g bl be bn Ae ce v1 HS1.out.chk HS1.out.eds);go_wp2_with fail;refine HZ2.out.mono ?_;rintro e v2 ⟨rfl,hv⟩;have HS2:=hd_ (HS1.out.below hv);clear hv t2 HZ2 HS1;go_wp2_with fail;rw[rounds_succ];have t3:v2.cell? ⟨gs,3,none⟩=some (.func (.func 143) #[.pointer (some ⟨g,0,none⟩)] #[]):=HS2.out.stp.cell 3;have HZ3:=hd_ (knRecs g bl be bn Ae ce v2 HS2.out.chk);go_wp2_with fail;refine HZ3.out.mono ?_;rintro e v3 ⟨rfl,hv⟩;have HS3:=hd_ (HS2.out.below hv);clear hv t3 HZ3 HS2;go_wp2_with fail;rw[rounds_succ];have t4:v3.cell? ⟨gs,4,none⟩=some (.func (.func 144) #[.pointer (some ⟨g,0,none⟩)] #[]):=HS3.out.stp.cell 4;have HZ4:=hd_ (knRoom g bl be bn Ae ce v3 HS3.out.chk);go_wp2_with fail;refine HZ4.out.mono ?_;rintro e v4 ⟨rfl,hv⟩;have HS4:=hd_ (HS3.out.below hv);clear hv t4 HZ4 HS3;go_wp2_with fail;rw[rounds_succ];go_upto_region 9 with fail;refine knR9 _ (by kernel_rfl) _ w.heap.size (w.heap.size+1) (.slice Ae 2 ce) v4 HS4.out.boxD HS4.out.boxC ?_
 intro eN eO eP eQ eR eS eT eU eV eW g10 v2' w5 H9;have HR0:=hd_ H9.out.1;obtain⟨A2,c2,hv2⟩:=H9.out.2;clear H9;subst hv2;have e3:w5.cell? ⟨w.heap.size+1,3,none⟩=some (.slice Ae 2 ce):=(HS4.out.below HR0.out.bel).boxC.cell 3;go_wp2_with fail;clear e3;go_loopw [43] (fun s wr=>∃(k:Nat) (v1:Value),s=.int .i64 k∧k≤2∧Hid (WaR v4 wr g10 v1 (.slice A2 0 c2) k ((knD.take k).flatMap Rev.cells))) (fun s _=>2 - (intOf s).toNat)
 case atStart=>exact⟨0,_,rfl,by omega,HR0.out⟩
 case round =>
  obtain⟨k,v1,rfl,hk,HK⟩:=hrel;by_cases hlt:k<2
  ·obtain⟨ad,p,rfl,hab,⟨x0,x1,x2,x3,x4,x5,x6,x7,x8,x9,x10,x11⟩,hp0,hp1⟩:=(HS4.out.below HK.out.bel).eds.at_ k hlt;have HT:=hd_ (zmn hlt hp0 hp1);have hX1:=z0l wr [.string p,.int .i64 1,.int .i64 1,.bool false,.bool false,.bool false,.int .u64 1,.int .i64 1,.int .i64 0,.string ⟨#[]⟩,.int .i64 0,.int .i64 0] 100;have hA1:zB wr (wr.alloc (.cells #[.string p,.int .i64 1,.int .i64 1,.bool false,.bool false,.bool false,.int .u64 1,.int .i64 1,.int .i64 0,.string ⟨#[]⟩,.int .i64 0,.int .i64 0] 100)):=(Below.refl _ _).alloc (Nat.le_refl _) _;have q2:decide ((k:Int)<2)=true:=by simp;omega
   clear hp0 hp1;go_upto_region 13 with fail;clear x0 x1 x2 x3 x4 x5 x6 x7 x8 x9 x10 x11;generalize wr.alloc (.cells #[.string p,.int .i64 1,.int .i64 1,.bool false,.bool false,.bool false,.int .u64 1,.int .i64 1,.int .i64 0,.string ⟨#[]⟩,.int .i64 0,.int .i64 0] 100)=V1 at hX1 hA1 ⊢;have HRV2:=hd_ (fun X (hX:zB V1 X)=>zi4 p g bl be bn _ ce X ((HS4.out.below (z0r (z0r HK.out.bel hA1) hX)).chk) ((HS4.out.below (z0r (z0r HK.out.bel hA1) hX)).last));have HAR:=hd_ (HK.out.under hA1);have HX1:=hd_ hX1;clear hX1;refine knR13 _ (by kernel_rfl) _ g g10 wr.heap.size k p v1 _ _ v4 V1 HAR.out HX1.out (by omega) HRV2.out ?_
   intro fh fi fj fk fm fp fq ft v3 w6 HQ;go_wp2_with fail;go_roundw
   case rel =>
    refine⟨k+1,v3,by go_num,by omega,?_⟩
    have:=HQ.out;rw[← HT.out] at this;exact this
   case measure=>simp [intOf];omega
  ·have hkk:k=2:=by omega
   subst hkk;have hR2:=HK.out;obtain⟨A1,c1,hv1⟩:=z0o hR2.one;subst hv1;have HSR:=hd_ (fun X=>knSort A2 c2 (.func (.func 87) #[] #[]) X);have b1':wr.cell? ⟨g10,1,none⟩=some (.slice A2 0 c2):=hR2.box.cell 1;have HR2:=hd_ hR2;clear hR2 HK;have q2:decide ((2:Int)<2)=false:=by decide
   go_wp2_with fail;refine (HSR.out _).mono ?_;rintro e w6 ⟨rfl,rfl⟩;have hbx:=HR2.out.box;have hre:=(HS4.out.below HR2.out.bel).boxR;have hbw:=(HS4.out.below HR2.out.bel).bel;have hlt6:w.heap.size+1+1<v4.heap.size:=HS4.out.boxR.lt;have HBW:=hd_ hbw;clear b1' hbw;obtain⟨b0,b1,-,-⟩:=box2 hbx;obtain⟨r0,r1,f0,f1⟩:=box2 hre;go_wp2_with fail;have hR5:=(hre.set_ 0 (.slice A1 2 c1)).set_ 1 (.slice A2 0 c2);have hB5:=(HBW.out.setCell (p:=⟨w.heap.size+1+1,0,none⟩) (by simp;omega) (.slice A1 2 c1)).setCell (p:=⟨w.heap.size+1+1,1,none⟩) (by simp;omega) (.slice A2 0 c2)
   have hO5:=Row.of_own (z4x (z4x HR2.out.one (p:=⟨w.heap.size+1+1,0,none⟩) (fun e=>by have:=HR2.out.one.lt _ e;simp at this;omega) (.slice A1 2 c1)) (p:=⟨w.heap.size+1+1,1,none⟩) (fun e=>by have:=HR2.out.one.lt _ e;simp at this;omega) (.slice A2 0 c2))
   clear b0 b1 r0 r1 f0 f1 hre hbx;generalize (wr.setCell ⟨w.heap.size+1+1,0,none⟩ (.slice A1 2 c1)).setCell ⟨w.heap.size+1+1,1,none⟩ (.slice A2 0 c2)=W5 at hR5 hB5 hO5 ⊢;obtain⟨r0,r1,-,-⟩:=box2 hR5;exact bodyPost_ret (v:=.tuple #[.agg #[.slice A1 2 c1,.slice A2 0 c2],.int .i64 0]) (by simp [results,results41,go_sem,r0,r1]) rfl ⟨A1,c1,_,_,rfl,hO5,hB5⟩
open Go.Sort (grow)
theorem zq8 (hs:List Hav)(ps:List Syn)(hv pv:Value)(w:World)(he:Env w)(hH:z4h w hv hs)(hS:z57 w pv ps)(hz:∀ x∈hs,x.path.size≤2000000∧x.loc.size≤2000000)(hz2:∀ x∈ps,x.path.size≤2000000∧x.dst.size≤2000000)(hl:hs.length+ps.length≤300000):
  Calls prog 53 #[hv,pv] w fun e w'=>e=.returned (.int .i64 (zik hs ps))∧zB w w':=by
 obtain⟨Ah,ch,rfl,-⟩:=id hH;obtain⟨Ap,cp,rfl,-⟩:=id hS;have HE:=hd_ he;have HH:=hd_ hH;have HS:=hd_ hS;have HZ2:=hd_ hz2;have HC0:=hd_ (zq1 hs (.slice Ah hs.length ch) w he hH hz);have HFC:=hd_ (fun X (hX:zB w X) x (h1:x.path.size≤2000000) (h2:x.dst.size≤2000000)=>zq7 hs x (.slice Ah hs.length ch) X (he.below hX) (Row.below hH hX) (by omega) h1 h2)
 have HZR:Hid (∀ y∈z56 hs ps,y.path.size≤2000000∧y.loc.size≤2000000):=hd_ fun y hy=>by
  rcases zp8 hy with h | ⟨x,hx,e1,e2⟩
  ·exact hz y h
  ·rw[e1,e2];exact hz2 x hx
 clear he hH hS hz hz2;go_enter func53,ntmps53;go_wp2_with fail;refine HC0.out.mono ?_;rintro e w1 ⟨c0,rfl,hc0,hb1⟩;have HB1:=hd_ hb1;clear hb1 HC0;by_cases hE:z4m hs=0
 rotate_left
 ·have HP:Hid (zik hs ps=350):=hd_ (zq3 hE);have q0:(c0 != 0)=true:=bne_iff_ne.2 (fun h=>hE (hc0.1 h));clear hE hc0;go_wp2_with fail;go_ret;exact⟨z3a HP.out.symm,HB1.out⟩
 have hcz:c0=0:=hc0.2 hE;subst hcz;have HEZ:=hd_ hE;have HOK:=hd_ (zep.1 hE).1;clear hE hc0;go_wp2_with fail;go_loopw [5] (fun i wr=>∃ k:Nat,k≤ps.length∧i=.int .i64 k∧Hid ((∀ j (hj:j<ps.length),j<k→zpx hs ps j hj)∧zB w wr)) (fun i _=>ps.length - (intOf i).toNat)
 case atStart=>exact⟨0,Nat.zero_le _,rfl,hd_ ⟨fun j _ h=>by omega,HB1.out⟩⟩
 case round =>
  obtain⟨k,hk,rfl,HI⟩:=hrel;by_cases hlt:k<ps.length
  ·obtain⟨ad,rfl,hab,y0,y1,y2,y3,y4⟩:=z57.at_ (HS.out.below HI.out.2) hlt;have hxs:=HZ2.out (ps[k]'hlt) (List.getElem_mem _);have HBAD:Hid ((zi5 (ps[k]'hlt) (zjg hs (ps[k]'hlt).path)=false∨∃ h:0<k,0≤z2z (ps[k - 1]'(Nat.lt_of_le_of_lt (Nat.sub_le k 1) hlt)).path (ps[k]'hlt).path)→zik hs ps=351):=hd_ (zq4 HEZ.out hlt);have HNX:Hid (zi5 (ps[k]'hlt) (zjg hs (ps[k]'hlt).path)=true→(∀ h:0<k,z2z (ps[k - 1]'(Nat.lt_of_le_of_lt (Nat.sub_le k 1) hlt)).path (ps[k]'hlt).path<0)→∀ j (hj:j<ps.length),j<k+1→zpx hs ps j hj):=hd_ fun a1 a2 j hj hjk=>by
    by_cases e:j=k
    ·subst e;exact⟨a1,a2⟩
    ·exact HI.out.1 j hj (by omega)
   have hprev:k=0∨∃(j:Nat) (hj:j<ps.length),k=j+1:=by
    cases k with
    | zero=>exact .inl rfl
    | succ j=>exact .inr ⟨j,by omega,rfl⟩
   have HB:=hd_ HI.out.2;have HLT:=hd_ hlt;have HVK:Hid (∀ j (hj:j<ps.length),j<k→z2x (ps[j]'hj).path=true):=hd_ fun j hj h=>(zem (zpy (HI.out.1 j hj h).fit).1).1;generalize hx:ps[k]'hlt=x at y0 y1 y2 y3 y4 hxs HBAD HNX;have HF:=hd_ (fun X hX=>HFC.out X hX x hxs.1 hxs.2);have m0:=cell_regrown y0;have m1:=cell_regrown y1;have m2:=cell_regrown y2;have m3:=cell_regrown y3;have m4:=cell_regrown y4;clear hx HI hab;have hbr:∀ d os,zB w (grow (redrawn wr d) os):=fun d os=>z0q HB.out HB.out.size (below_regrown wr d os);cases hok:zi5 x (zjg hs x.path)
   ·have HR:=hd_ (HBAD.out (.inl hok));have cV:∀ d os,Calls prog 99 #[.slice Ah hs.length ch,.agg #[.int .i64 x.kind,.string x.path,.int .i64 x.num,.string x.frm,.string x.dst]] (grow (redrawn wr d) os) fun e w''=>e=.returned (.bool false)∧∃ p:Regrown,w''=grow (redrawn wr p.d) p.os:=fun d os=>Calls.regrown_of (by have hh:=HF.out (grow (redrawn wr d) os) (hbr d os);rw[hok] at hh;exact hh)
    clear hok hprev hbr;go_wp2_with fail;refine wp_region_quiet_below (by kernel_rfl) (by kernel_rfl) ?_
    repeat (first | go_big_quiet_step (exact cV _ _) | quiet_step (exact cV _ _))
    refine wpQuiet_nil ?_;intro _ hw9;obtain⟨⟨dq,osq⟩,hw9⟩:=hw9;subst hw9;have HB4:=hd_ (z0q HB.out HB.out.size (below_regrown wr dq osq));generalize grow (redrawn wr dq) osq=W5 at HB4 ⊢;go_wp2_with fail;go_ret;exact⟨z3a HR.out.symm,HB4.out⟩
   ·have HXV:=hd_ (zem (zpy hok).1).1;have HOKX:=hd_ hok;have cV:∀ d os,Calls prog 99 #[.slice Ah hs.length ch,.agg #[.int .i64 x.kind,.string x.path,.int .i64 x.num,.string x.frm,.string x.dst]] (grow (redrawn wr d) os) fun e w''=>e=.returned (.bool true)∧∃ p:Regrown,w''=grow (redrawn wr p.d) p.os:=fun d os=>Calls.regrown_of (by have hh:=HF.out (grow (redrawn wr d) os) (hbr d os);rw[hok] at hh;exact hh)
    clear hok;rcases hprev with h0 | ⟨j,hj,hkj⟩
    ·have n0:decide (0<k)=false:=by simp;omega
     have HN:=hd_ (HNX.out HOKX.out (fun h=>by omega))
     clear h0 hbr;go_wp2_with fail;refine wp_region_quiet_below (by kernel_rfl) (by kernel_rfl) ?_
     repeat (first | go_big_quiet_step (exact cV _ _) | quiet_step (exact cV _ _))
     refine wpQuiet_nil ?_;intro _ hw9;obtain⟨⟨dq,osq⟩,hw9⟩:=hw9;subst hw9;have HB4:=hd_ (z0q HB.out HB.out.size (below_regrown wr dq osq));generalize grow (redrawn wr dq) osq=W5 at HB4 ⊢;clear cV m0 m1 m2 m3 m4 y0 y1 y2 y3 y4 n0;go_wp2_with fail;go_roundw
     case rel=>exact⟨k+1,HLT.out,by go_num,hd_ ⟨HN.out,HB4.out⟩⟩
     case measure=>have:=HLT.out;simp [intOf];omega
    ·obtain⟨ad2,had,hab2,u0,u1,u2,u3,u4⟩:=z57.at_ (HS.out.below HB.out) hj;injection had with had
     subst had;have hys:=HZ2.out (ps[j]'hj) (List.getElem_mem _);have hyv:=HVK.out j hj (by omega)
     have hkj':k - 1=j:=by omega
     have HYE:Hid (∀ h:0<k,(ps[k - 1]'(Nat.lt_of_le_of_lt (Nat.sub_le k 1) HLT.out)).path=(ps[j]'hj).path):=hd_ fun h=>by simp only[hkj']
     generalize ps[j]'hj=y at u0 u1 u2 u3 u4 hys hyv HYE;have e1:=cell_regrown u1;have n0:decide (0<k)=true:=by simp;omega
     have n1:(k:Int) - 1=(j:Int):=by omega
     have HOR:=hd_ (fun X (hX:zB w X)=>zha y.path x.path X (HE.out.below hX) hys.1 hxs.1);rw[zh9 hyv HXV.out] at HOR;have cC:∀ d os,Calls prog 93 #[.string y.path,.string x.path] (grow (redrawn wr d) os) fun e w''=>e=.returned (.int .i64 (z2z y.path x.path))∧∃ p:Regrown,w''=grow (redrawn wr p.d) p.os:=fun d os=>Calls.regrown_of (by have hh:=HOR.out (grow (redrawn wr d) os) (hbr d os);exact hh)
     generalize hcv:z2z y.path x.path=cv at cC;by_cases hge:0≤cv
     ·have HR:=hd_ (HBAD.out (.inr ⟨by omega,by rw[HYE.out (by omega),hcv];exact hge⟩))
      have n2:decide ((0:Int)≤cv)=true:=decide_eq_true hge;clear hcv hge hbr hkj' hkj hyv hys hxs;go_wp2_with fail;refine wp_region_quiet_below (by kernel_rfl) (by kernel_rfl) ?_
      repeat (first | go_big_quiet_step (first | exact cV _ _ | exact cC _ _) | quiet_step (first | exact cV _ _ | exact cC _ _))
      refine wpQuiet_nil ?_;intro _ hw9;obtain⟨⟨dq,osq⟩,hw9⟩:=hw9;subst hw9;have HB4:=hd_ (z0q HB.out HB.out.size (below_regrown wr dq osq));generalize grow (redrawn wr dq) osq=W5 at HB4 ⊢;go_wp2_with fail;go_ret;exact⟨z3a HR.out.symm,HB4.out⟩
     ·have HN:=hd_ (HNX.out HOKX.out (fun h=>by rw[HYE.out h,hcv];omega))
      have n2:decide ((0:Int)≤cv)=false:=decide_eq_false hge;clear hcv hge hbr hkj' hkj hyv hys;go_wp2_with fail;refine wp_region_quiet_below (by kernel_rfl) (by kernel_rfl) ?_
      repeat (first | go_big_quiet_step (first | exact cV _ _ | exact cC _ _) | quiet_step (first | exact cV _ _ | exact cC _ _))
      refine wpQuiet_nil ?_;intro _ hw9;obtain⟨⟨dq,osq⟩,hw9⟩:=hw9;subst hw9;have HB4:=hd_ (z0q HB.out HB.out.size (below_regrown wr dq osq));generalize grow (redrawn wr dq) osq=W5 at HB4 ⊢;clear cV cC m0 m1 m2 m3 m4 y0 y1 y2 y3 y4 n0 n1 n2 e1 u0 u1 u2 u3 u4 HYE HOR;go_wp2_with fail;go_roundw
      case rel=>exact⟨k+1,HLT.out,by go_num,hd_ ⟨HN.out,HB4.out⟩⟩
      case measure=>have:=HLT.out;simp [intOf];omega
  ·obtain rfl:k=ps.length:=by omega
   have hfit:∀ j (hj:j<ps.length),zpx hs ps j hj:=fun j hj=>HI.out.1 j hj hj;have HPE:=hd_ (zq5 HEZ.out hfit);have HB:=hd_ HI.out.2;have HAF:=hd_ (zpt hs ps (.slice Ah hs.length ch) (.slice Ap ps.length cp) wr (HE.out.below HB.out) (Row.below HH.out HB.out) (HS.out.below HB.out) HOK.out.srt (fun a ha=>⟨HOK.out.valid a ha,by have:=zkl HOK.out a ha;omega⟩) (zpz hfit).1 (fun x hx=>by
    obtain⟨i,hi,rfl⟩:=List.getElem_of_mem hx;obtain⟨a1,a2⟩:=zpy (hfit i hi).fit;obtain⟨a3,a4,-⟩:=zem a1;exact⟨a3,by omega,a2⟩) (by omega))
   clear HI hfit;go_wp2_with fail;refine HAF.out.mono ?_;rintro e w3 ⟨rv,rfl,hr,hb⟩;have HB3:=hd_ (z0r HB.out hb);have HC:=hd_ (zq1 (z56 hs ps) rv w3 (HE.out.below HB3.out) hr HZR.out);clear hb hr HAF;go_wp2_with fail;refine HC.out.mono ?_;rintro e w4 ⟨c1,rfl,hc1,hb⟩;have HB4:=hd_ (z0r HB3.out hb);clear hb HC;by_cases h2:z4m (z56 hs ps)=0
   ·have hcz:c1=0:=hc1.2 h2;subst hcz;have HP:=hd_ (HPE.out.trans (if_pos h2));clear h2 hc1;go_wp2_with fail;go_ret;exact⟨z3a HP.out.symm,HB4.out⟩
   ·have q0:(c1 != 0)=true:=bne_iff_ne.2 (fun h=>h2 (hc1.1 h));have HP:=hd_ (HPE.out.trans (if_neg h2));clear h2 hc1;go_wp2_with fail;go_ret;exact⟨z3a HP.out.symm,HB4.out⟩
theorem zq9 {hs:List Hav}{ps:List Syn}(h:zik hs ps=0):zek hs∧∀ i (hi:i<ps.length),zpx hs ps i hi:=by
 by_cases hE:z4m hs=0
 ·refine⟨(zep.1 hE).1,fun i hi=>?_⟩;by_cases h1:zi5 ps[i] (zjg hs ps[i].path)=true
  ·refine⟨h1,fun h0=>?_⟩;by_cases h2:z2z (ps[i - 1]'(by omega)).path ps[i].path<0
   ·exact h2
   ·have:=zq4 hE hi (.inr ⟨h0,by omega⟩)
    rw[h] at this;exact absurd this (by decide)
  ·have:=zq4 hE hi (.inl (by simpa using h1))
   rw[h] at this;exact absurd this (by decide)
 ·rw[zq3 hE] at h;exact absurd h (by decide)
theorem zqa (hs:List Hav)(ps:List Syn)(hv pv:Value)(w:World)(he:Env w)(hH:z4h w hv hs)(hS:z57 w pv ps)(hz:∀ x∈hs,x.path.size≤2000000∧x.loc.size≤2000000)(hz2:∀ x∈ps,x.path.size≤2000000∧x.dst.size≤2000000)(hl:hs.length+ps.length≤300000):
  Calls prog 19 #[hv,pv] w fun e w'=>∃ v,e=.returned (.tuple #[v,.int .i64 (zik hs ps)])∧z4h w' v (if zik hs ps=0 then z56 hs ps else [])∧zB w w':=by
 obtain⟨Ah,ch,rfl,-⟩:=id hH;obtain⟨Ap,cp,rfl,-⟩:=id hS;have HC:=hd_ (zq8 hs ps _ _ w he hH hS hz hz2 hl);have HAF:Hid (∀ X,zB w X→zik hs ps=0→Calls prog 51 #[.slice Ah hs.length ch,.slice Ap ps.length cp] X fun e w'=>∃ v,e=.returned v∧z4h w' v (z56 hs ps)∧zB X w'):=hd_ fun X hX h0=>by
  obtain⟨hOk,hfit⟩:=zq9 h0;exact zpt hs ps _ _ X (he.below hX) (Row.below hH hX) (hS.below hX) hOk.srt (fun a ha=>⟨hOk.valid a ha,by have:=zkl hOk a ha;omega⟩) (zpz hfit).1 (fun x hx=>by
    obtain⟨i,hi,rfl⟩:=List.getElem_of_mem hx;obtain⟨a1,a2⟩:=zpy (hfit i hi).fit;obtain⟨a3,a4,-⟩:=zem a1;exact⟨a3,by omega,a2⟩) hl
 clear he hH hS hz hz2;generalize zik hs ps=pe at HC HAF ⊢;generalize z56 hs ps=rl at HAF ⊢;by_cases hp:pe=0
 ·subst hp;go_enter func19,ntmps19;go_wp2_with fail;refine HC.out.mono ?_;rintro e w1 ⟨rfl,hb⟩;have HB1:=hd_ hb;have HA1:=hd_ (HAF.out w1 hb trivial);clear hb;go_wp2_with fail;refine HA1.out.mono ?_;rintro e w2 ⟨v,rfl,hr,hb⟩;have HB2:=hd_ (z0r HB1.out hb);have HR:=hd_ hr;clear hb hr;go_wp2_with fail;go_ret2;exact⟨_,rfl,HR.out,HB2.out⟩
 ·have q0:(pe != 0)=true:=bne_iff_ne.2 hp;have HP:=hd_ hp;clear hp HAF;go_enter func19,ntmps19;go_wp2_with fail;refine HC.out.mono ?_;rintro e w1 ⟨rfl,hb⟩;have HB1:=hd_ hb;clear hb;go_wp2_with fail;go_ret2;exact⟨_,rfl,Row.nil_ _ 3,HB1.out⟩
