/- A part. -/
import Derived.Test.YtijghobkkdbhnaaGreatDoorMcw25
import Derived.Test.YtijghobkkdbhnaaGreatDoorMcw23
set_option linter.unusedVariables false
set_option linter.unusedSimpArgs false
set_option maxHeartbeats 8000000
set_option maxRecDepth 100000
namespace Go.Proofs.YtijghobkkdbhnaaGreatDoor
open Go.RowKit
open Go.Sort (grow)
theorem zn2 {x:ByteArray}(h:z7d x≠0):zbm x=true:=by
 unfold zbm zbl;unfold z7d at h;cases hc:z12 x with
 | true=>simp
 | false =>
  rw[hc] at h;cases hs:z7b x with
  | false=>rw[hs] at h;exact absurd rfl h
  | true =>
   rw[hs] at h;cases ht:z7c x with
   | false=>rw[ht] at h;exact absurd rfl h
   | true=>rfl
theorem zcm.pushS {w wr w2:World}{g4 g11 n:Nat}{v:Value}{b:Bool}{l:List ByteArray}{x:ByteArray}{A':Option Addr}{c':Nat}(h:zcm w wr g4 g11 v b l)(hn:n=l.length)
  (hown:w2.ownsRow w.heap.size 9 1 (.slice A' (n+1) c') (n+1) (l.map .string++[.string x])) (hgr:wr.grownBy w2 v.ownBlock)
  (hob:(Value.slice A' (n+1) c').ownBlock=v.ownBlock∨(Value.slice A' (n+1) c').ownBlock=some wr.heap.size):
  zcm w (w2.setCell ⟨g11,0,none⟩ (.slice A' (n+1) c')) g4 g11 (.slice A' (n+1) c') b (l++[x]):=h.app (m:=[x]) (by rw[hn];rfl) hown hgr hob
theorem zn3 (p:Pat)(l:List ByteArray)(A:Option Addr)(a:Nat)(B1:Addr)(c1:Nat)(C:Option Addr)(m c:Nat)(w:World)(hp:z9j w (.slice A p.parts.length a) p)(hn:zcg p)
  (hb:Row w 2 (.slice (some B1) 1 c1) 1 [.slice C m c,.bool true]) (hl:Strs w (.slice C m c) l) (hz:∀ x∈l,x.size≤1000000) (hf:∀ x∈l,z7d x≠0) (hle:p.parts.length+l.length≤12):
  Calls Tryz.prog 113 #[.agg #[.slice A p.parts.length a,.bool true],.slice (some B1) 1 c1] w (SubPost w p l):=by
 have hml:m=l.length:=by obtain⟨A',c',e,-⟩:=id hl;injection e
 subst hml;have hcells:w.cell? B1=some (.slice C l.length c)∧w.cell? ⟨B1.block,B1.off+1,none⟩=some (.bool true)∧B1.block<w.heap.size:=by
  obtain⟨A',c',e,-,-,-,-,hx⟩:=id hb;injection e with e1 e2 e3
  obtain⟨ad,e4,hb4,hc4⟩:=hx (by omega)
  rw[← e1] at e4;injection e4 with e4
  subst e4;have h0:=hc4 0 _ rfl;have h1:=hc4 1 _ rfl;unfold Addr.add at h0 h1;exact⟨by simpa using h0,by simpa using h1,hb4⟩
 have hA:zB w ((w.alloc (.cells #[.slice A p.parts.length a,.bool true] 68)).alloc (.cells #[.slice none 0 0,.bool false] 68)):=((Below.refl _ _).alloc (Nat.le_refl _) _).alloc (by simp) _
 have h2:zb5 ((w.alloc (.cells #[.slice A p.parts.length a,.bool true] 68)).alloc (.cells #[.slice none 0 0,.bool false] 68)) w.heap.size (.slice A p.parts.length a) true:=(z0l w [.slice A p.parts.length a,.bool true] 68).alloc _;have h3:zb5 ((w.alloc (.cells #[.slice A p.parts.length a,.bool true] 68)).alloc (.cells #[.slice none 0 0,.bool false] 68)) (w.heap.size+1) (.slice none 0 0) false:=by
  have:=z0l (w.alloc (.cells #[.slice A p.parts.length a,.bool true] 68)) [.slice none 0 0,.bool false] 68;rw[World.size_alloc] at this;exact this
 have HCP:Hid (∀ X,zB w X→Calls Tryz.prog 60 #[.agg #[.slice A p.parts.length a,.bool true]] X fun e w'=>e=.returned (.int .i64 0)∧zB X w'):=hd_ (fun X hX=>by have:=zcc p A a X (hp.below hX).1 hp.small;rw[hn.rest,hn.pat] at this;exact this)
 have HWC:=hd_ (fun X (hX:zB w X)=>zn1 p A a X (hp.below hX) hn);have HST:Hid (∀(k:Nat) (h:k<p.parts.length) X,Calls Tryz.prog 111 #[.string p.parts[k]] X fun e w'=>∃ s,e=.returned (.tuple #[.string s,.bool false])∧zB X w'):=hd_ fun k h X=>by
  have h0:zbl p.parts[k]=false:=by unfold zbl;rw[hn.star _ (List.getElem_mem h)];rfl
  refine (zc4 p.parts[k] X (hp.small _ (List.getElem_mem h))).mono ?_;rintro e w' ⟨rfl,rfl⟩;rw[h0];exact⟨_,rfl,Below.refl _ _⟩
 have HPT:Hid (∀(k:Nat) (h:k<l.length) X,Calls Tryz.prog 110 #[.string l[k]] X fun e w'=>e=.returned (.bool true)∧zB X w'):=hd_ fun k h X=>by
  refine (zc5 l[k] X (by have:=hz _ (List.getElem_mem h);unfold maxLen;omega)).mono ?_
  rintro e w' ⟨rfl,rfl⟩;rw[zn2 (hf _ (List.getElem_mem h))];exact⟨rfl,Below.refl _ _⟩
 have HP:=hd_ hp;have HL:=hd_ hl;have HCE:=hd_ hcells;have HLE:=hd_ hle;have hcap:1≤c1:=by
  obtain⟨A',c',e,h1,-⟩:=id hb;injection e with e1 e2 e3
  omega
 clear hp hn hl hcells hz hf hb;go_enter Tryz.func113,Tryz.ntmps113;go_upto_region 1 with fail;generalize (w.alloc (.cells #[.slice A p.parts.length a,.bool true] 68)).alloc (.cells #[.slice none 0 0,.bool false] 68)=W1 at hA h2 h3 ⊢;have x0:=h2.c0;have x1:=h2.c1;have H:=hd_ (And.intro hA (And.intro h2 h3));have HC1:=hd_ (HCP.out W1 hA);clear hA h2 h3;go_wp2_with fail;refine HC1.out.mono ?_;rintro e w2 ⟨rfl,hb⟩;dsimp only;have HB:=hd_ (z0r H.out.1 hb);have HG:=hd_ (And.intro (H.out.2.1.low hb) (H.out.2.2.low hb));have HC2:=hd_ (HWC.out w2 HB.out);clear hb x0 x1;have x0:=HG.out.1.c0;have x1:=HG.out.1.c1;go_wp2_with fail;refine HC2.out.mono ?_;rintro e w3 ⟨rfl,hb⟩;dsimp only;have HB3:=hd_ (z0r HB.out hb);have HG3:=hd_ (And.intro (HG.out.1.low hb) (HG.out.2.low hb));clear hb x0 x1;have HS:Hid (zcm w (w3.alloc (.cells #[.slice none 0 0,.bool false] 68)) (w.heap.size+1) w3.heap.size (.slice none 0 0) false []):=hd_ (by
  have hba:zB w3 (w3.alloc (.cells #[.slice none 0 0,.bool false] 68)):=(Below.refl _ _).alloc (Nat.le_refl _) _;have hl4:=Blk.lt HG3.out.2;exact⟨z0r HB3.out hba,by omega,by omega,HG3.out.2.low hba,z0l w3 _ _,World.ownsRow_nil _ _ _ _,(fun e=>by cases e),(fun e=>by cases e)⟩)
 have HGS:Hid (zb5 (w3.alloc (.cells #[.slice none 0 0,.bool false] 68)) w.heap.size (.slice A p.parts.length a) true∧w.heap.size<w3.heap.size):=hd_ ⟨HG3.out.1.low ((Below.refl _ _).alloc (Nat.le_refl _) _),Blk.lt HG3.out.1⟩;have x0:=HGS.out.1.c0;go_upto_region 7 with fail;generalize w3.alloc (.cells #[.slice none 0 0,.bool false] 68)=W4 at HS HGS x0 ⊢;generalize w3.heap.size=g7 at HS HGS ⊢;go_wp2_with fail;clear x0;go_loopw [8,32] (fun z i wr=>∃(k:Nat) (v:Value),z=.int .i64 0∧i=.int .i64 k∧k≤p.parts.length∧Hid (zcm w wr (w.heap.size+1) g7 v false (p.parts.take k)∧zb5 wr w.heap.size (.slice A p.parts.length a) true)) (fun _ i _=>p.parts.length - (intOf i).toNat)
 case atStart=>exact⟨0,_,rfl,rfl,Nat.zero_le _,hd_ ⟨HS.out,HGS.out.1⟩⟩
 case round =>
  obtain⟨k,v,rfl,rfl,hk,HI⟩:=hrel;clear HS;by_cases hlt:k<p.parts.length
  ·obtain⟨ad,rfl,hab,s0⟩:=Strs.at_ (HP.out.below HI.out.1.low).1 hlt;have HCI:=hd_ (HST.out k hlt wr);have HLT:=hd_ hlt;have HTK:=hd_ (show p.parts.take (k+1)=p.parts.take k++[p.parts[k]] from List.take_succ_eq_append_getElem hlt);have hkl:(p.parts.take k).length=k:=by rw[List.length_take];omega
   obtain⟨Av,cv,hv⟩:=z0o HI.out.1.own;rw[hkl] at hv;subst hv;generalize p.parts[k]=u at s0 HCI HTK;go_wp2_with fail;refine HCI.out.mono ?_;rintro e w4 ⟨s,rfl,hb⟩;dsimp only;have HI4:=hd_ (HI.out.1.under hb);have HPB4:=hd_ (HI.out.2.low hb);clear hb s0;have y0:=HI4.out.box.c0;have f0:=HI4.out.box.frozen 0;have hba:zB w4 (w4.alloc (.cells #[.string u] 9)):=(Below.refl _ _).alloc (Nat.le_refl _) _;have HI5:=hd_ (HI4.out.under hba);have HPB5:=hd_ (HPB4.out.low hba);have ho5:=HI5.out.own;rw[hkl] at ho5;have HO5:=hd_ ho5;have HKL:=hd_ hkl;have hrow:=z0i w4 [.string u] 9 1 1 rfl (by unfold maxLen;omega) w4.heap.size rfl
   have hsz:=HI5.out.low.size;have hp12:=HLE.out;clear ho5 hba hkl;go_wp2_with (at_builtin;refine z0j rfl rfl zl2 HO5.out rfl hrow rfl (by simp [Value.oneCell']) (by omega) (by unfold maxLen;omega) hsz ?_;intro A' c' w6 hown hgr hob;have hbg:=Blk.grown HI5.out.box hgr (fun e=>HI5.out.ne e.symm);have z0:=Blk.cell hbg 0;have zf:=Blk.frozen hbg 0)
   have HN6:=hd_ (HI5.out.pushS (x:=u) HKL.out.symm hown hgr hob);have hpn:=zk8 HI5.out.own HPB5.out (by decide)
   have HPB6:=hd_ (Blk.far (Blk.grown HPB5.out hgr (fun e=>hpn e.symm)) (p:=⟨g7,0,none⟩) (by show g7≠w.heap.size;have:=HGS.out.2;omega) (.slice A' (k+1) c'))
   rw[← HTK.out] at HN6;clear hown hgr hob hbg z0 zf y0 f0 hrow hpn;go_wp2_with fail;go_roundw
   case rel=>exact⟨k+1,_,rfl,by go_num,by have:=HLT.out;omega,hd_ ⟨HN6.out,HPB6.out⟩⟩
   case measure=>have:=HLT.out;simp [intOf];omega
  ·have hke:k=p.parts.length:=by omega
   have HS3:Hid (zcm w wr (w.heap.size+1) g7 v false p.parts):=hd_ (by have:=HI.out.1;rw[hke,List.take_length] at this;exact this)
   obtain⟨Av,cv,rfl⟩:=z0o HS3.out.own;have b0:wr.cell? B1=some (.slice C l.length c):=(HS3.out.low.cell HCE.out.2.2).trans HCE.out.1;have b1:wr.cell? ⟨B1.block,B1.off+1,none⟩=some (.bool true):=(HS3.out.low.cell (p:=⟨B1.block,B1.off+1,none⟩) HCE.out.2.2).trans HCE.out.2.1;have x1:=HI.out.2.c1;have hba:zB wr (wr.alloc (.cells #[.slice C l.length c,.bool true] 228)):=(Below.refl _ _).alloc (Nat.le_refl _) _;have HBX:=hd_ (z0l wr [.slice C l.length c,.bool true] 228);have HS4:=hd_ (HS3.out.under hba);have HNO:Hid ((Value.slice Av p.parts.length cv).ownBlock≠some wr.heap.size∧g7<wr.heap.size):=hd_ ⟨fun e=>by have:=(HS3.out.own.lt _ e).2;omega,Blk.lt HS3.out.box⟩
   clear hba hke hk HI;go_upto_region 21 with fail;generalize wr.alloc (.cells #[.slice C l.length c,.bool true] 228)=W5 at HBX HS4 ⊢;generalize wr.heap.size=g14 at HBX HNO ⊢;clear b0 b1 x1 HS3;have d0:W5.cell? ⟨g14,0,none⟩=some (.slice C l.length c):=HBX.out.cell 0;have d1:W5.cell? ⟨g14,1,none⟩=some (.bool true):=HBX.out.cell 1;obtain⟨cc,hcc⟩:∃ cc,((l.length:Int) == 0)=cc:=⟨_,rfl⟩;have HL5:=hd_ (fun X (hX:zB W5 X)=>Strs.below HL.out (z0r HS4.out.low hX));have hl12:=HLE.out;have HIN:Hid (∀ X,zB W5 X→Blk X g14 228 [.slice C l.length c,.bool true]∧zcm w X (w.heap.size+1) g7 (.slice Av p.parts.length cv) false p.parts):=hd_ fun X hX=>⟨HBX.out.below hX HBX.out.lt,HS4.out.under hX⟩;cases cc
   all_goals
    clear HBX HS4;go_wp2_with fail;clear hcc d0 d1;go_loopw [97] (fun i wr=>∃ k:Nat,i=.int .i64 k∧k≤l.length∧Hid (zB W5 wr)) (fun i _=>l.length - (intOf i).toNat)
    case atStart=>exact⟨0,rfl,Nat.zero_le _,hd_ (Below.refl _ _)⟩
    case round =>
     obtain⟨k,rfl,hk,HI⟩:=hrel;by_cases hlt:k<l.length
     ·obtain⟨ad,rfl,hab,s0⟩:=Strs.at_ (HL5.out wr HI.out) hlt;have HCI:=hd_ (HPT.out k hlt wr);have HLT:=hd_ hlt;generalize l[k]=u at s0 HCI;go_wp2_with fail;refine HCI.out.mono ?_;rintro e w4 ⟨rfl,hb⟩;dsimp only;have HB4:=hd_ (z0r HI.out hb);clear hb s0;go_wp2_with fail;go_roundw
      case rel=>exact⟨k+1,by go_num,by have:=HLT.out;omega,HB4⟩
      case measure=>have:=HLT.out;simp [intOf];omega
     ·obtain⟨hbx,hsx⟩:=HIN.out wr HI.out;have hs:=HL5.out wr HI.out;go_upto_region 29 with fail;refine sbR29 _ (by kernel_rfl) _ w wr (w.heap.size+1) g7 g14 p.parts.length l.length cv c Av C p.parts l hsx hbx hs rfl rfl hl12 (by have:=HNO.out.2;omega) HNO.out.1 (fun h0 ad e=>by
       obtain⟨A9,c9,e9,-,-,-,-,h9⟩:=id HL.out;obtain⟨ad9,e10,hb9,-⟩:=h9 h0;injection e9 with e9 _ _
       rw[e,e10] at e9;injection e9 with e9
       rw[e9];have:=HGS.out.2;omega) _ _ _ _ _ _ _ _ _ _ _ _ _ _ _ _ _ _ _ _ _ _ _ _ _ _ _ _ _ _ _ _ _ _ _ _ _ _ _ _ _ _ _ _ _ _ _ _ _ _ _ _ _ _ _ _ _ _ _ _ _ _ _ _ _ _ _ _ _ _ _ _ _ _ _ _ _ _ _ _ _ _ _ _ _ _ _ _ _ _ _ _ _ _ _ _ _ _ _ _ _ _ _ _ _ _ _ _ _ _ _ _ _ _ _ _ _ _ _ ?_
      intro ai aj ak am ao aq ar au aw A' c' w6 HP6;clear hbx hsx hs;have y0:=HP6.out.box.c0;have y1:=HP6.out.box.c1;obtain⟨u0,u1,u2,u3⟩:=HP6.out.box4.all;have q12:decide ((12:Int)<(p.parts.length:Int)+(l.length:Int))=false:=by simp;omega
      have q13:decide (12<p.parts.length+l.length)=false:=by simp;omega
      have hne:¬(w.heap.size+1=g7):=by have:=HP6.out.le;omega
      have hne2:¬(g7=w.heap.size+1):=by have:=HP6.out.le;omega
      go_wp2_with fail;have hE:=zb5.put HP6.out.box4 (.slice A' (p.parts.length+l.length) c') true;have hb:=zb6 HP6.out.low (g:=w.heap.size+1) (by omega) (.slice A' (p.parts.length+l.length) c') (.bool true)
      have hO:=Row.of_own (z4x (z4x HP6.out.own (p:=⟨w.heap.size+1,0,none⟩) HP6.out.ne4 (.slice A' (p.parts.length+l.length) c')) (p:=⟨w.heap.size+1,1,none⟩) HP6.out.ne4 (.bool true));generalize (w6.setCell ⟨w.heap.size+1,0,none⟩ (.slice A' (p.parts.length+l.length) c')).setCell ⟨w.heap.size+1,1,none⟩ (.bool true)=W8 at hE hb hO ⊢;obtain⟨-,-,c0,c1⟩:=hE.all;refine bodyPost_ret (v:=.tuple #[.agg #[.slice A' (p.parts.length+l.length) c',.bool true],.int .i64 0]) (by simp [results,Tryz.results113,go_sem,c0,c1]) rfl ⟨hb,A',c',rfl,fun x hx=>(HP6.out.own.lt x hx).1,?_⟩
      show Row W8 1 _ (p.parts++l).length _
      have e:(p.parts++l).length=p.parts.length+l.length:=List.length_append;rw[e] at hO ⊢;exact hO
structure Frm (wr w':World)(g gw:Nat)(cv cv':Value):Prop where
 os:w'.os=wr.os
 tape:w'.tape=wr.tape
 output:w'.output=wr.output
 size:wr.heap.size≤w'.heap.size
 block:∀ k,k<wr.heap.size→k≠g→k≠gw→cv.ownBlock≠some k→w'.heap[k]? = wr.heap[k]?
 ob:cv'.ownBlock=cv.ownBlock∨∀ x,cv'.ownBlock=some x→wr.heap.size≤x
theorem Frm.of_kept {wr w':World}{g gw:Nat}{cv:Value}(h:z9s [g] wr w'):Frm wr w' g gw cv cv:=⟨h.os,h.tape,h.output,h.size,fun k hk h1 _ _=>h.block k hk (by simpa using h1),.inl rfl⟩
theorem Frm.trans {w1 w2 w3:World}{g gw:Nat}{a b c:Value}(h:Frm w1 w2 g gw a b)(h2:Frm w2 w3 g gw b c):Frm w1 w3 g gw a c:=by
 refine⟨h2.os.trans h.os,h2.tape.trans h.tape,h2.output.trans h.output,Nat.le_trans h.size h2.size,fun k hk h3 h4 h5=>(h2.block k (Nat.lt_of_lt_of_le hk h.size) h3 h4 ?_).trans (h.block k hk h3 h4 h5),?_⟩
 ·rcases h.ob with e | e
  ·rw[e];exact h5
  ·intro e2;have:=e k e2;omega
 ·rcases h2.ob with e | e
  ·rcases h.ob with e' | e'
   ·exact .inl (e.trans e')
   ·exact .inr fun x hx=>e' x (by rw[← e];exact hx)
  ·exact .inr fun x hx=>Nat.le_trans h.size (e x hx)
theorem Frm.blk {wr w':World}{g gw k:Nat}{cv cv':Value}{e:TypeId}{cs:List Value}(h:Frm wr w' g gw cv cv')(hB:Blk wr k e cs)(h1:k≠g)(h2:k≠gw)(h3:cv.ownBlock≠some k):Blk w' k e cs:=(h.block k hB.lt h1 h2 h3).trans hB
theorem WsB.set_at {w wr:World}{U g gw m k i:Nat}{D:List Rev}{dv dr cv u:Value}{l:List Cnk}(h:WsB w wr U g gw m D dv dr cv l)(h1:w.heap.size≤k)(h2:k≠gw)(h3:cv.ownBlock≠some k)(h4:dv.ownBlock≠some k):WsB w (wr.setCell ⟨k,i,none⟩ u) U g gw m D dv dr cv l:=by
 have hb:Below w.heap.size wr (wr.setCell ⟨k,i,none⟩ u):=(Below.refl _ _).setCell (p:=⟨k,i,none⟩) h1 u;exact⟨h.kept.onto hb,h.tape.onto h.UU hb,h.box.far (p:=⟨k,i,none⟩) h2 u,z4x h.cnk (p:=⟨k,i,none⟩) h3 u,Row.set_far h.revs h4,h.gU,h.UU,h.le,fun x hx=>⟨(h.far x hx).1,Nat.lt_of_lt_of_le (h.far x hx).2.1 hb.size,(h.far x hx).2.2⟩⟩
def WcPost (w wr:World)(U g gw m:Nat)(D:List Rev)(dv dr cv:Value)(n:Nat)(e:Ending)(w':World):Prop:=∃(s z:Nat) (cv':Value) (l':List Cnk),e=.returned (.agg #[.int .u64 s,.int .i64 z])∧WsB w w' U g gw m D dv dr cv' l'∧l'.length≤n+1∧Frm wr w' g gw cv cv'
theorem zop {w wr:World}{U g gw m:Nat}{D:List Rev}{dv dr cv:Value}{l:List Cnk}(h:WsB w wr U g gw m D dv dr cv l)(hl:l.length≤100000)(hm:m≤90000):
  Calls Tryz.prog 107 #[.pointer (some ⟨gw,0,none⟩),.pointer (some ⟨g,0,none⟩)] wr (WcPost w wr U g gw (m+5) D dv dr cv l.length):=by
 have hA:zB wr (wr.alloc (.cells #[.int .u64 0,.int .i64 0] 88)):=(Below.refl _ _).alloc (Nat.le_refl _) _;have hX:Blk _ _ 88 [.int .u64 0,.int .i64 0]:=z0l wr _ _;have hg:=h.gU;have hUU:=h.UU;have hle:=h.le;have hbl:=h.box.lt;have HO:Hid (g<wr.heap.size∧gw<wr.heap.size∧(∀ x,cv.ownBlock=some x→x<wr.heap.size)∧U≤wr.heap.size):=hd_ ⟨by omega,hbl,fun x hx=>(h.cnk.lt x hx).2,by omega⟩
 have HDV:Hid (w.heap.size≤wr.heap.size∧∀ x,dv.ownBlock=some x→x<wr.heap.size):=hd_ ⟨h.kept.size,fun x hx=>(h.far x hx).2.1⟩;have HS:=hd_ (h.under hA);have HF:=hd_ (Frm.of_kept (gw:=gw) (cv:=cv) (z9s.below (S:=[g]) hA));have HX:=hd_ hX;have HY:=hd_ (zon U g m _ (HS.out.tape) (by have:=hA.size;omega) (by omega))
 clear h hA hX hg hUU hle hbl;go_enter Tryz.func107,Tryz.ntmps107;go_upto_region 1 with fail;generalize wr.alloc (.cells #[.int .u64 0,.int .i64 0] 88)=W1 at HS HF HX HY ⊢;have HG4:=hd_ (rfl:wr.heap.size=wr.heap.size);generalize hg4:wr.heap.size=g4 at HX HO HDV HG4 ⊢;go_wp2_with fail;refine HY.out.mono ?_;rintro e w2 ⟨v5,n,rfl,hn,hM,hT2,hK2⟩;dsimp only;have HS2:=hd_ (HS.out.next hK2 hT2);have HF2:=hd_ (HF.out.trans (Frm.of_kept hK2));have HX2:=hd_ (hK2.blk HX.out (by have:=HO.out.1;simp;omega))
 obtain⟨bs,hbs,hB⟩:=hM.row;obtain⟨A5,c5,rfl⟩:∃ A c,v5=.slice A n c:=by obtain⟨g',cap,cur,fz,e1,-⟩:=hM;exact⟨_,_,e1⟩
 have HOF:=hd_ (rOf_any bs _ w2 hB);rw[hbs] at HOF;clear hM hT2 hK2 hbs hB HY HS HF HX;go_wp2_with fail;refine HOF.out.mono ?_;rintro e w3 ⟨⟨r,rfl⟩,hb3⟩;dsimp only;have hb4:=z0r hb3 ((Below.refl w3.heap.size w3).alloc (Nat.le_refl _) (.cells #[.int .u64 r,.int .i64 n] 88));have HS4:=hd_ (HS2.out.under hb4);have HF4:=hd_ (HF2.out.trans (Frm.of_kept (z9s.below hb4)));have HX4:=hd_ (HX2.out.below hb4 HX2.out.lt);have HI4:Hid (Blk _ _ 88 [.int .u64 r,.int .i64 n]):=hd_ (z0l w3 _ _);have HO4:Hid (g4≠w3.heap.size∧g4<w3.heap.size):=hd_ (by have h1:=HX2.out.lt;have h2:=hb3.size;omega)
 clear hb3 hb4 HS2 HF2 HX2 HOF;go_upto_region 3 with fail;generalize w3.alloc (.cells #[.int .u64 r,.int .i64 n] 88)=W4 at HS4 HF4 HX4 HI4 ⊢;generalize w3.heap.size=g6 at HI4 HO4 ⊢;have x0:W4.cell? ⟨g6,0,none⟩=some (.int .u64 r):=HI4.out.cell 0;have x1:W4.cell? ⟨g6,1,none⟩=some (.int .i64 n):=HI4.out.cell 1;have HFI:=hd_ (zoo HS4.out r n (by omega))
 go_wp2_with fail;refine HFI.out.mono ?_;rintro e w5 ⟨⟨A6,n6,c6,b,rfl⟩,hb5⟩;dsimp only;have HS5:=hd_ (HS4.out.under hb5);have HF5:=hd_ (HF4.out.trans (Frm.of_kept (z9s.below hb5)));have HX5:=hd_ (HX4.out.below hb5 HX4.out.lt);have HI5:=hd_ (HI4.out.below hb5 HI4.out.lt);clear hb5 x0 x1 HFI HS4 HF4 HX4 HI4;go_upto_if 20 with fail
 go_cut [] (fun wx=>Hid (∃ cv' l',WsB w wx U g gw (m+5) D dv dr cv' l'∧l'.length≤l.length+1∧Frm wr wx g gw cv cv'∧Blk wx g4 88 [.int .u64 0,.int .i64 0]∧Blk wx g6 88 [.int .u64 r,.int .i64 n]))
 case first =>
  cases b with
  | true =>
   go_wp2_with fail;go_meet
   exact hd_ ⟨cv,l,HS5.out,by omega,HF5.out,HX5.out,HI5.out⟩
  | false =>
   obtain⟨Ac,cc,rfl⟩:=z0o HS5.out.cnk;have HEND:Hid (∀ Y W A' c',zB w5 Y→Y.grownBy W (Value.slice Ac l.length cc).ownBlock→W.ownsRow (gw+1) 225 3 (.slice A' (l.length+1) c') (l.length+1) (l.flatMap Cnk.cells++[.int .u64 r,.int .i64 n,.slice A5 n c5])→((Value.slice A' (l.length+1) c').ownBlock=(Value.slice Ac l.length cc).ownBlock∨(Value.slice A' (l.length+1) c').ownBlock=some Y.heap.size) →
     (W.cell? ⟨gw,2,none⟩=some (.slice Ac l.length cc)∧W.frozen? ⟨gw,2,none⟩=false)∧Hid (∃ cv' l',WsB w (W.setCell ⟨gw,2,none⟩ (.slice A' (l.length+1) c')) U g gw (m+5) D dv dr cv' l'∧l'.length≤l.length+1∧Frm wr (W.setCell ⟨gw,2,none⟩ (.slice A' (l.length+1) c')) g gw (.slice Ac l.length cc) cv'∧Blk (W.setCell ⟨gw,2,none⟩ (.slice A' (l.length+1) c')) g4 88 [.int .u64 0,.int .i64 0]∧Blk (W.setCell ⟨gw,2,none⟩ (.slice A' (l.length+1) c')) g6 88 [.int .u64 r,.int .i64 n])):=hd_ fun Y W A' c' hY hG hOw hob=>by
    have hSY:=HS5.out.under hY;have hne:some gw≠(Value.slice Ac l.length cc).ownBlock:=fun e=>by have:=(HS5.out.cnk.lt gw e.symm).1;omega
    have hbx:=hSY.box.grown hG hne;have hn4:some g4≠(Value.slice Ac l.length cc).ownBlock:=fun e=>by have:=HO.out.2.2.1 g4 e.symm;omega
    have hn6:some g6≠(Value.slice Ac l.length cc).ownBlock:=fun e=>by have:=HO.out.2.2.1 g6 e.symm;have:=HO4.out.2;omega
    have hgw4:gw≠g4:=by have:=HO.out.2.1;omega
    have hgw6:gw≠g6:=by have:=HO.out.2.1;have:=HO4.out.2;omega
    refine⟨⟨hbx.cell 2,hbx.frozen 2⟩,hd_ ⟨_,l++[⟨r,n,A5,n,c5⟩],hSY.turn hG (by rw[List.length_append,List.flatMap_append];exact hOw) hob,by rw[List.length_append];exact Nat.le_refl _,⟨?_,?_,?_,?_,fun k hk h1 h2 h3=>?_,?_⟩,Blk.far ((HX5.out.below hY HX5.out.lt).grown hG hn4) hgw4 _,Blk.far ((HI5.out.below hY HI5.out.lt).grown hG hn6) hgw6 _⟩⟩
    ·exact (hG.os.trans hY.os).trans HF5.out.os
    ·exact (hG.tape.trans hY.tape).trans HF5.out.tape
    ·exact (hG.output.trans hY.output).trans HF5.out.output
    ·have h1:=HF5.out.size;have h2:=hY.size;have h3:=hG.size;have h4:=(z9t W gw 2 (.slice A' (l.length+1) c')).size;omega
    ·have h4:=(z9t W gw 2 (.slice A' (l.length+1) c')).block k (by have:=hG.size;have:=hY.size;have:=HF5.out.size;omega) (by intro e;injection e with e;exact h2 e)
     have h5:=hG.block k (by have:=hY.size;have:=HF5.out.size;omega) (fun e=>h3 e.symm)
     exact h4.trans (h5.trans ((hY.block k (by have:=HF5.out.size;omega)).trans (HF5.out.block k (by omega) h1 h2 h3)))
    ·rcases hob with e | e
     ·exact .inl e
     ·refine .inr fun x hx=>?_;rw[e] at hx;injection hx with hx
      have:=HF5.out.size;have:=hY.size;omega
   have hdr:zB w5 w5.drew:=(Below.refl _ _).drew;have hda:zB w5 (w5.alloc (.cells #[.int .u64 r,.int .i64 n,.slice A5 n c5] 225)).drew:=(z0u (Below.refl _ _) _).drew;have HL:Hid (∀ Y,zB w5 Y→Y.cell? ⟨gw,2,none⟩=some (.slice Ac l.length cc)∧Y.cell? ⟨g6,0,none⟩=some (.int .u64 r)∧Y.cell? ⟨g6,1,none⟩=some (.int .i64 n)):=hd_ fun Y hY=>⟨(HS5.out.box.below hY HS5.out.box.lt).cell 2,(HI5.out.below hY HI5.out.lt).cell 0,(HI5.out.below hY HI5.out.lt).cell 1⟩;have HOW:Hid (∀ Y,zB w5 Y→Y.ownsRow (gw+1) 225 3 (.slice Ac l.length cc) l.length (l.flatMap Cnk.cells)):=hd_ fun Y hY=>z0n HS5.out.cnk hY;have HDA:=hd_ hda;have HSZ:Hid (gw+1≤(w5.alloc (.cells #[.int .u64 r,.int .i64 n,.slice A5 n c5] 225)).drew.heap.size):=hd_ (by have:=HS5.out.box.lt;have:=hda.size;omega)
   obtain⟨b0,x0,x1⟩:=HL.out w5 (Below.refl _ _);obtain⟨b1,x2,x3⟩:=HL.out _ hdr;obtain⟨b2,x4,x5⟩:=HL.out _ hda;have hl2:l.length≤100000:=hl;go_upto_region 5 with fail;clear hdr hda;refine wp_region_noPanic ?_;go_region_law (first
    | (refine z0t (base:=gw+1) rfl rfl cnkElem (HOW.out _ HDA.out) (by simp [Act.eval,Act.put];done) (Row.drew (z0i w5 [.int .u64 r,.int .i64 n,.slice A5 n c5] _ 3 1 rfl (by decide) _ rfl)) (by simp [Act.eval,Act.put];done) (by simp [Value.oneCell']) (by omega) (by unfold maxLen;omega) HSZ.out ?_;intro A' c' w6 hO6 hG6 hw6;obtain⟨⟨k1,k2⟩,hfin⟩:=HEND.out _ _ _ _ HDA.out hG6 hO6 hw6))
   all_goals
    refine NoPanic.normal ?_;go_wp2_with fail;go_meet
    exact hfin
 case rest =>
  obtain⟨cv',l',hS,hll,hF,hX,hI⟩:=hcut.out;have HE:=hd_ (And.intro hS (And.intro hll hF));obtain⟨x0,x1⟩:=(⟨hI.cell 0,hI.cell 1⟩:wc.cell? ⟨g6,0,none⟩=some (.int .u64 r)∧wc.cell? ⟨g6,1,none⟩=some (.int .i64 n));obtain⟨y0,y1⟩:=(⟨hX.cell 0,hX.cell 1⟩:wc.cell? ⟨g4,0,none⟩=some (.int .u64 0)∧wc.cell? ⟨g4,1,none⟩=some (.int .i64 0));obtain⟨f0,f1⟩:=(⟨hX.frozen 0,hX.frozen 1⟩:wc.frozen? ⟨g4,0,none⟩=false∧wc.frozen? ⟨g4,1,none⟩=false);have HX:=hd_ hX;have HNB:Hid (cv'.ownBlock≠some g4):=hd_ (zk8 hS.cnk hX (by decide))
  clear hcut hS hll hF hX hI HS5 HF5 HX5 HI5;go_wp2_with fail;have hd4:dv.ownBlock≠some g4:=fun e=>by have:=HDV.out.2 g4 e;omega
  have hw4:w.heap.size≤g4:=HDV.out.1;have hn4:g4≠gw:=by have:=HO.out.2.1;omega
  have hE:=(HX.out.set_ 0 (.int .u64 (r:Int))).set_ 1 (.int .i64 (n:Int));have hS8:=(HE.out.1.set_at (k:=g4) (i:=0) (u:=.int .u64 (r:Int)) hw4 hn4 HNB.out hd4).set_at (k:=g4) (i:=1) (u:=.int .i64 (n:Int)) hw4 hn4 HNB.out hd4;have hg1:=z9t wc g4 0 (.int .u64 (r:Int));have hg2:=z9t (wc.setCell ⟨g4,0,none⟩ (.int .u64 (r:Int))) g4 1 (.int .i64 (n:Int));have hF8:Frm wr ((wc.setCell ⟨g4,0,none⟩ (.int .u64 (r:Int))).setCell ⟨g4,1,none⟩ (.int .i64 (n:Int))) g gw cv cv':=by
   have hF:=HE.out.2.2;refine⟨(hg2.os.trans hg1.os).trans hF.os,(hg2.tape.trans hg1.tape).trans hF.tape,(hg2.output.trans hg1.output).trans hF.output,Nat.le_trans hF.size (Nat.le_trans hg1.size hg2.size),fun k hk h1 h2 h3=>?_,hF.ob⟩;have hk4:k≠g4:=by omega
   have hsz:=hF.size;exact (hg2.block k (by have:=hg1.size;omega) (by intro e;injection e with e;exact hk4 e)).trans ((hg1.block k (by omega) (by intro e;injection e with e;exact hk4 e)).trans (hF.block k hk h1 h2 h3))
  clear hg1 hg2;generalize (wc.setCell ⟨g4,0,none⟩ (.int .u64 (r:Int))).setCell ⟨g4,1,none⟩ (.int .i64 (n:Int))=W8 at hE hS8 hF8 ⊢;have e0:=hE.cell 0;have e1:=hE.cell 1;exact bodyPost_ret (v:=.agg #[.int .u64 (r:Int),.int .i64 (n:Int)]) (by simp [results,Tryz.results107,go_sem,e0,e1]) rfl ⟨r,n,cv',l',rfl,hS8,HE.out.2.1,hF8⟩
