/- A part of the proof. -/
import Derived.Test.YtegeboijhifmcaaGreatDoorMgw30
set_option linter.unusedVariables false
set_option linter.unusedSimpArgs false
set_option maxHeartbeats 8000000
set_option maxRecDepth 100000
namespace Go.Proofs.YtegeboijhifmcaaGreatDoor
open Go.Proofs.Tryz
open Go.RowKit
open Go.Sort (grow)
structure PlSt (w wr:World)(B b1 b2:Nat)(v:Value)(op dt:List ByteArray)(ps:List Syn)(k:Nat):Prop where
 own:zjv wr B v ((ps.take k).map (zf7 op dt)++ps.drop k)
 s1:zjy wr b1 op
 s2:zjy wr b2 dt
 low:Below B w wr
theorem set_mid {α:Type}(A D:List α)(x y:α)(k:Nat)(hk:A.length=k):(A++x :: D).set k y=A++y :: D:=by
 subst hk;induction A with
 | nil=>rfl
 | cons a r ih=>rw[List.cons_append,List.length_cons,List.set_cons_succ,ih];rfl
theorem get_mid {α:Type}(A D:List α)(x:α)(k:Nat)(hk:A.length=k)(h:k<(A++x :: D).length):(A++x :: D)[k]=x:=by subst hk;simp
theorem PlSt.next {w wr W:World}{B b1 b2 g c n:Nat}{op dt:List ByteArray}{ps:List Syn}{k:Nat}{x:Syn}{q:Int}(H:PlSt w wr B b1 b2 (.slice (some ⟨g,0,none⟩) n c) op dt ps k)(hX:Below wr.heap.size wr W)
  (hp:ps.drop k=x :: ps.drop (k+1)) (ht:ps.take (k+1)=ps.take k++[x]) (hk:(ps.take k).length=k) (hq:zf6 op dt x=q) (h1:b1≠g) (h2:b2≠g) (hB:B≤g) (hs:B≤wr.heap.size):
  PlSt w (W.setCell ⟨g,k * 5,none⟩ (.int .i64 q)) B b1 b2 (.slice (some ⟨g,0,none⟩) n c) op dt ps (k+1):=by
 have hO:zjv W B (.slice (some ⟨g,0,none⟩) n c) ((ps.take k).map (zf7 op dt)++x :: ps.drop (k+1)):=by
  have:=z0n H.own hX;rw[hp] at this;exact this
 have hlt:k<((ps.take k).map (zf7 op dt)++x :: ps.drop (k+1)).length:=by rw[List.length_append,List.length_map,hk,List.length_cons];omega
 have hO2:=zjv.put hO hlt q;have hx:((ps.take k).map (zf7 op dt)++x :: ps.drop (k+1))[k]=x:=get_mid _ _ _ _ (by rw[List.length_map,hk]) hlt
 rw[hx,set_mid _ _ _ _ _ (by rw[List.length_map,hk])] at hO2
 have hkd:zjw q x=zf7 op dt x:=by rw[← hq];rfl
 refine⟨?_,z2f.setCell (z2f.below H.s1 hX) (fun e=>h1 e.symm) _,z2f.setCell (z2f.below H.s2 hX) (fun e=>h2 e.symm) _,(H.low.trans (hX.mono hs)).setCell hB _⟩;rw[ht,List.map_append,List.append_assoc];rw[hkd] at hO2;exact hO2
theorem plT8 (T:Code)(hT:Tryz.f12.body.bind (zhv 8)=some T)(R:Ending→World→Prop)(w:World)(B b1 b2 g c:Nat)(Ap:Option Addr)(ps:List Syn)(op dt:List ByteArray)(hAp:0<ps.length→Ap=some ⟨g,0,none⟩)
  (hI:PlSt w w B b1 b2 (.slice Ap ps.length c) op dt ps 0) (h1:b1≠g) (h2:b2≠g) (hB:B≤g) (hBw:B≤w.heap.size) (hl:ps.length≤1000000)
  (hs RL:List Hav) (Ah:Option Addr) (ch:Nat) (P1:List Syn)
  (hBK:∀ X,Below B w X→zjv X B (.slice Ap ps.length c) (ps.map (zf7 op dt))→Calls prog 38 #[.slice Ah hs.length ch,.slice Ap ps.length c] X fun e w'=>e=.returned (.tuple #[])∧zjv w' B (.slice Ap ps.length c) P1∧Below B X w')
  (hRS:∀ X,Below B w X→zjv X B (.slice Ap ps.length c) P1→Calls prog 39 #[.slice Ah hs.length ch,.slice Ap ps.length c] X fun e w'=>∃ u,e=.returned u∧z4b w' u RL∧Below X.heap.size X w')
  (hR1:1024<RL.length→∀ X,Below B w X→R (.returned (.tuple #[.slice none 0 0,.int .i64 351])) X)
  (hR2:¬ 1024<RL.length→∀ X,Below B w X→zjv X B (.slice Ap ps.length c) P1→R (.returned (.tuple #[.slice Ap ps.length c,.int .i64 0])) X)
  (u0 u1 u2 u4 u5 u6 u7 u8 u9 gn gt gx gy gz gE gF gG gH gI gJ gK gL gM gN gO gP gQ gR gT gV gW gX gY gZ i6 i7 i8 ia ib ic ie ig ii ij ik il im io ip iq ir iu iv iw ix iy iz iA iB iC iD iE iF iG iH iI iJ iK iL iM iN iO iP iQ iR iS iT iU iV iW iX iY iZ j0 j1 j2 j5 j6 j7 j8 j9 jb jd:Value):
  T.wp prog (bodyPost prog Tryz.f12 R) ⟨#[u0,u1,u2,.slice Ah hs.length ch,u4,u5,u6,u7,u8,u9,gn,gt,.slice none 0 0,gx,gy,gz,.slice Ap ps.length c,.map (some b1),.map (some b2),gE,gF,gG,gH,gI,gJ,gK,gL,gM,gN,gO,gP,gQ,gR,gT,gV,gW,gX,gY,gZ,i6,i7,i8,ia,ib,ic,ie,ig,ii,ij,ik,il,im,io,ip,iq,ir,iu,iv,iw,ix,iy,iz,iA,iB,iC,iD,iE,iF,iG,iH,iI,iJ,iK,iL,iM,iN,iO,iP,iQ,iR,iS,iT,iU,iV,iW,iX,iY,iZ,j0,j1,j2,j5,j6,j7,j8,j9,jb,jd],[]⟩ w:=by
 simp only[Tryz.f12,Option.bind_some,zhv,zhu] at hT
 simp at hT
 subst hT;have HI:=hd_ hI;have HBK:=hd_ hBK;have HRS:=hd_ hRS;have HR1:=hd_ hR1;have HR2:=hd_ hR2;clear hI hBK hRS hR1 hR2;go_wp2_with fail;go_loopw [43] (fun i wr=>∃ k:Nat,k≤ps.length∧i=.int .i64 k∧Hid (PlSt w wr B b1 b2 (.slice Ap ps.length c) op dt ps k)) (fun i _=>ps.length - (intOf i).toNat)
 case atStart=>exact⟨0,Nat.zero_le _,rfl,HI⟩
 case round =>
  obtain⟨k,hk,rfl,HK⟩:=hrel;by_cases hlt:k<ps.length
  ·obtain rfl:=hAp (by omega)
   have hlt2:k<((ps.take k).map (zf7 op dt)++ps.drop k).length:=by simp;omega
   have hx:((ps.take k).map (zf7 op dt)++ps.drop k)[k]=ps[k]:=by
    rw[List.getElem_append_right (by rw[List.length_map,List.length_take];exact Nat.min_le_left _ _)]
    simp [Nat.min_eq_left hk]
   obtain⟨⟨y0,y1,y2,y3,y4⟩,fz⟩:=zjv.cell HK.out.own hlt2;rw[hx] at y0 y1 y2 y3 y4;have HPX:=hd_ (show ps.drop k=ps[k] :: ps.drop (k+1) from List.drop_eq_getElem_cons hlt);have HTX:=hd_ (show ps.take (k+1)=ps.take k++[ps[k]] from List.take_succ_eq_append_getElem hlt);generalize ps[k]=x at y0 y1 y2 y3 y4 hx HPX HTX;clear hx fz hlt2;have HH1:=hd_ (fun X (hX:Below wr.heap.size wr X)=>zk0 op b1 x.path X (z2f.below HK.out.s1 hX));have hA:Below wr.heap.size wr (wr.alloc (.cells #[.int .i64 x.kind,.string x.path,.int .i64 x.num,.string x.frm,.string x.dst] 48)):=(Below.refl _ _).alloc (Nat.le_refl _) _;have HC1:=hd_ (HH1.out _ hA);have HA:=hd_ hA;obtain⟨z0,z1,z2,z3,z4⟩:=z3r (x:=x) (z0l wr [.int .i64 x.kind,.string x.path,.int .i64 x.num,.string x.frm,.string x.dst] 48);have HBX:=hd_ (z0l wr [.int .i64 x.kind,.string x.path,.int .i64 x.num,.string x.frm,.string x.dst] 48);clear hA;by_cases hop:x.path∈op
   ·have HKD:Hid (zf6 op dt x=6):=hd_ (if_pos hop);rw[decide_eq_true hop] at HC1;clear hop;go_wp2_with fail;refine HC1.out.mono ?_;rintro e w1 ⟨rfl,hb1⟩;have HB1:=hd_ (HA.out.trans (hb1.mono HA.out.size));clear hb1;have HO1:=hd_ (z0n HK.out.own HB1.out);obtain⟨⟨v0,-,-,-,-⟩,fz⟩:=zjv.cell (show zjv w1 B (.slice (some ⟨g,0,none⟩) ps.length c) ((ps.take k).map (zf7 op dt)++ps.drop k) from HO1.out) (k:=k) (by simp;omega)
    clear y0 y1 y2 y3 y4 z0 z1 z2 z3 z4;have HN:=hd_ (HK.out.next HB1.out HPX.out HTX.out (by rw[List.length_take];omega) HKD.out h1 h2 hB (Nat.le_trans hBw HK.out.low.size))
    go_wp2_with fail;go_roundw
    case rel=>exact⟨k+1,by omega,by go_num,HN⟩
    case measure=>simp [intOf];omega
   ·have HOP:=hd_ hop;rw[decide_eq_false hop] at HC1;clear hop;have HF1:=hd_ (fun X (hX:Below wr.heap.size wr X)=>zk0 dt b2 x.frm X (z2f.below HK.out.s2 hX));have HD1:=hd_ (fun X (hX:Below wr.heap.size wr X)=>zk0 dt b2 x.dst X (z2f.below HK.out.s2 hX));have HCELL:=hd_ (fun X (hX:Below wr.heap.size wr X)=>zjv.cell (show zjv X B (.slice (some ⟨g,0,none⟩) ps.length c) ((ps.take k).map (zf7 op dt)++ps.drop k) from z0n HK.out.own hX) (k:=k) (by simp;omega))
    go_wp2_with fail;refine HC1.out.mono ?_;rintro e w1 ⟨rfl,hb1⟩;have HB1:=hd_ (HA.out.trans (hb1.mono HA.out.size));have HX1:=hd_ (HBX.out.below hb1 HBX.out.lt);clear hb1 y0 y1 y2 y3 y4 z0 z1 z2 z3 z4;obtain⟨z0,z1,z2,z3,z4⟩:=z3r (x:=x) HX1.out;by_cases hf:x.frm=z2l
    ·by_cases hd:x.dst=z2l
     ·have HFE:=hd_ hf;obtain⟨s1,s2⟩:=z3v hf;have HDE:=hd_ hd;obtain⟨t1,t2⟩:=z3v hd;have HKD:Hid (zf6 op dt x=z3p x.frm x.dst):=hd_ (by unfold zf6;rw[if_neg HOP.out,if_neg (fun h=>h.elim (fun h=>h.1 HFE.out) (fun h=>h.1 HDE.out))])
      clear hf hd;have HKC:=hd_ (z3y x w1);go_wp2_with fail;refine HKC.out.mono ?_;rintro e w2 ⟨rfl,hb2⟩;have HB2:=hd_ (HB1.out.trans (hb2.mono HB1.out.size));have HX2:=hd_ (HX1.out.below hb2 HX1.out.lt);clear hb2 z0 z1 z2 z3 z4;obtain⟨z0,z1,z2,z3,z4⟩:=z3r (x:=x) HX2.out;obtain⟨⟨v0,-,-,-,-⟩,fz⟩:=HCELL.out w2 HB2.out;have HN:=hd_ (HK.out.next HB2.out HPX.out HTX.out (by rw[List.length_take];omega) HKD.out h1 h2 hB (Nat.le_trans hBw HK.out.low.size))
      go_wp2_with fail;go_roundw
      case rel=>exact⟨k+1,by omega,by go_num,HN⟩
      case measure=>simp [intOf];omega
     ·by_cases hdd:x.dst∈dt
      ·have HFE:=hd_ hf;obtain⟨s1,s2⟩:=z3v hf;have HDE:=hd_ hd;obtain⟨t1,t2⟩:=z3w hd;have HDD:=hd_ hdd;have HKD:Hid (zf6 op dt x=5):=hd_ (by unfold zf6;rw[if_neg HOP.out,if_pos (.inr ⟨HDE.out,HDD.out⟩)])
       clear hf hd hdd;have HCD:=hd_ (HD1.out w1 HB1.out);rw[decide_eq_true HDD.out] at HCD;go_wp2_with fail;refine HCD.out.mono ?_;rintro e w2 ⟨rfl,hb2⟩;have HB2:=hd_ (HB1.out.trans (hb2.mono HB1.out.size));have HX2:=hd_ (HX1.out.below hb2 HX1.out.lt);clear hb2 z0 z1 z2 z3 z4;obtain⟨z0,z1,z2,z3,z4⟩:=z3r (x:=x) HX2.out;obtain⟨⟨v0,-,-,-,-⟩,fz⟩:=HCELL.out w2 HB2.out;have HN:=hd_ (HK.out.next HB2.out HPX.out HTX.out (by rw[List.length_take];omega) HKD.out h1 h2 hB (Nat.le_trans hBw HK.out.low.size))
       go_wp2_with fail;go_roundw
       case rel=>exact⟨k+1,by omega,by go_num,HN⟩
       case measure=>simp [intOf];omega
      ·have HFE:=hd_ hf;obtain⟨s1,s2⟩:=z3v hf;have HDE:=hd_ hd;obtain⟨t1,t2⟩:=z3w hd;have HDD:=hd_ hdd;have HKD:Hid (zf6 op dt x=z3p x.frm x.dst):=hd_ (by unfold zf6;rw[if_neg HOP.out,if_neg (fun h=>h.elim (fun h=>h.1 HFE.out) (fun h=>HDD.out h.2))])
       clear hf hd hdd;have HCD:=hd_ (HD1.out w1 HB1.out);rw[decide_eq_false HDD.out] at HCD;go_wp2_with fail;refine HCD.out.mono ?_;rintro e w2 ⟨rfl,hb2⟩;have HB2:=hd_ (HB1.out.trans (hb2.mono HB1.out.size));have HX2:=hd_ (HX1.out.below hb2 HX1.out.lt);clear hb2 z0 z1 z2 z3 z4;obtain⟨z0,z1,z2,z3,z4⟩:=z3r (x:=x) HX2.out;have HKC:=hd_ (z3y x w2);go_wp2_with fail;refine HKC.out.mono ?_;rintro e w3 ⟨rfl,hb3⟩;have HB3:=hd_ (HB2.out.trans (hb3.mono HB2.out.size));have HX3:=hd_ (HX2.out.below hb3 HX2.out.lt);clear hb3 z0 z1 z2 z3 z4;obtain⟨z0,z1,z2,z3,z4⟩:=z3r (x:=x) HX3.out;obtain⟨⟨v0,-,-,-,-⟩,fz⟩:=HCELL.out w3 HB3.out;have HN:=hd_ (HK.out.next HB3.out HPX.out HTX.out (by rw[List.length_take];omega) HKD.out h1 h2 hB (Nat.le_trans hBw HK.out.low.size))
       go_wp2_with fail;go_roundw
       case rel=>exact⟨k+1,by omega,by go_num,HN⟩
       case measure=>simp [intOf];omega
    ·by_cases hfd:x.frm∈dt
     ·have HFE:=hd_ hf;obtain⟨s1,s2⟩:=z3w hf;have HCF:=hd_ (HF1.out w1 HB1.out);rw[decide_eq_true hfd] at HCF;have HFD:=hd_ hfd;have HKD:Hid (zf6 op dt x=5):=hd_ (by unfold zf6;rw[if_neg HOP.out,if_pos (.inl ⟨HFE.out,HFD.out⟩)])
      clear hf hfd;go_wp2_with fail;refine HCF.out.mono ?_;rintro e w2 ⟨rfl,hb2⟩;have HB2:=hd_ (HB1.out.trans (hb2.mono HB1.out.size));have HX2:=hd_ (HX1.out.below hb2 HX1.out.lt);clear hb2 z0 z1 z2 z3 z4;obtain⟨z0,z1,z2,z3,z4⟩:=z3r (x:=x) HX2.out;obtain⟨⟨v0,-,-,-,-⟩,fz⟩:=HCELL.out w2 HB2.out;have HN:=hd_ (HK.out.next HB2.out HPX.out HTX.out (by rw[List.length_take];omega) HKD.out h1 h2 hB (Nat.le_trans hBw HK.out.low.size))
      go_wp2_with fail;go_roundw
      case rel=>exact⟨k+1,by omega,by go_num,HN⟩
      case measure=>simp [intOf];omega
     ·by_cases hd:x.dst=z2l
      ·have HFE:=hd_ hf;obtain⟨s1,s2⟩:=z3w hf;have HCF:=hd_ (HF1.out w1 HB1.out);rw[decide_eq_false hfd] at HCF;have HFD:=hd_ hfd;have HDE:=hd_ hd;obtain⟨t1,t2⟩:=z3v hd;have HKD:Hid (zf6 op dt x=z3p x.frm x.dst):=hd_ (by unfold zf6;rw[if_neg HOP.out,if_neg (fun h=>h.elim (fun h=>HFD.out h.2) (fun h=>h.1 HDE.out))])
       clear hf hfd hd;go_wp2_with fail;refine HCF.out.mono ?_;rintro e w2 ⟨rfl,hb2⟩;have HB2:=hd_ (HB1.out.trans (hb2.mono HB1.out.size));have HX2:=hd_ (HX1.out.below hb2 HX1.out.lt);clear hb2 z0 z1 z2 z3 z4;obtain⟨z0,z1,z2,z3,z4⟩:=z3r (x:=x) HX2.out;have HKC:=hd_ (z3y x w2);go_wp2_with fail;refine HKC.out.mono ?_;rintro e w3 ⟨rfl,hb3⟩;have HB3:=hd_ (HB2.out.trans (hb3.mono HB2.out.size));have HX3:=hd_ (HX2.out.below hb3 HX2.out.lt);clear hb3 z0 z1 z2 z3 z4;obtain⟨z0,z1,z2,z3,z4⟩:=z3r (x:=x) HX3.out;obtain⟨⟨v0,-,-,-,-⟩,fz⟩:=HCELL.out w3 HB3.out;have HN:=hd_ (HK.out.next HB3.out HPX.out HTX.out (by rw[List.length_take];omega) HKD.out h1 h2 hB (Nat.le_trans hBw HK.out.low.size))
       go_wp2_with fail;go_roundw
       case rel=>exact⟨k+1,by omega,by go_num,HN⟩
       case measure=>simp [intOf];omega
      ·by_cases hdd:x.dst∈dt
       ·have HFE:=hd_ hf;obtain⟨s1,s2⟩:=z3w hf;have HCF:=hd_ (HF1.out w1 HB1.out);rw[decide_eq_false hfd] at HCF;have HFD:=hd_ hfd;have HDE:=hd_ hd;obtain⟨t1,t2⟩:=z3w hd;have HDD:=hd_ hdd;have HKD:Hid (zf6 op dt x=5):=hd_ (by unfold zf6;rw[if_neg HOP.out,if_pos (.inr ⟨HDE.out,HDD.out⟩)])
        clear hf hfd hd hdd;go_wp2_with fail;refine HCF.out.mono ?_;rintro e w2 ⟨rfl,hb2⟩;have HB2:=hd_ (HB1.out.trans (hb2.mono HB1.out.size));have HX2:=hd_ (HX1.out.below hb2 HX1.out.lt);clear hb2 z0 z1 z2 z3 z4;obtain⟨z0,z1,z2,z3,z4⟩:=z3r (x:=x) HX2.out;have HCD:=hd_ (HD1.out w2 HB2.out);rw[decide_eq_true HDD.out] at HCD;go_wp2_with fail;refine HCD.out.mono ?_;rintro e w3 ⟨rfl,hb3⟩;have HB3:=hd_ (HB2.out.trans (hb3.mono HB2.out.size));have HX3:=hd_ (HX2.out.below hb3 HX2.out.lt);clear hb3 z0 z1 z2 z3 z4;obtain⟨z0,z1,z2,z3,z4⟩:=z3r (x:=x) HX3.out;obtain⟨⟨v0,-,-,-,-⟩,fz⟩:=HCELL.out w3 HB3.out;have HN:=hd_ (HK.out.next HB3.out HPX.out HTX.out (by rw[List.length_take];omega) HKD.out h1 h2 hB (Nat.le_trans hBw HK.out.low.size))
        go_wp2_with fail;go_roundw
        case rel=>exact⟨k+1,by omega,by go_num,HN⟩
        case measure=>simp [intOf];omega
       ·have HFE:=hd_ hf;obtain⟨s1,s2⟩:=z3w hf;have HCF:=hd_ (HF1.out w1 HB1.out);rw[decide_eq_false hfd] at HCF;have HFD:=hd_ hfd;have HDE:=hd_ hd;obtain⟨t1,t2⟩:=z3w hd;have HDD:=hd_ hdd;have HKD:Hid (zf6 op dt x=z3p x.frm x.dst):=hd_ (by unfold zf6;rw[if_neg HOP.out,if_neg (fun h=>h.elim (fun h=>HFD.out h.2) (fun h=>HDD.out h.2))])
        clear hf hfd hd hdd;go_wp2_with fail;refine HCF.out.mono ?_;rintro e w2 ⟨rfl,hb2⟩;have HB2:=hd_ (HB1.out.trans (hb2.mono HB1.out.size));have HX2:=hd_ (HX1.out.below hb2 HX1.out.lt);clear hb2 z0 z1 z2 z3 z4;obtain⟨z0,z1,z2,z3,z4⟩:=z3r (x:=x) HX2.out;have HCD:=hd_ (HD1.out w2 HB2.out);rw[decide_eq_false HDD.out] at HCD;go_wp2_with fail;refine HCD.out.mono ?_;rintro e w3 ⟨rfl,hb3⟩;have HB3:=hd_ (HB2.out.trans (hb3.mono HB2.out.size));have HX3:=hd_ (HX2.out.below hb3 HX2.out.lt);clear hb3 z0 z1 z2 z3 z4;obtain⟨z0,z1,z2,z3,z4⟩:=z3r (x:=x) HX3.out;have HKC:=hd_ (z3y x w3);go_wp2_with fail;refine HKC.out.mono ?_;rintro e w4 ⟨rfl,hb4⟩;have HB4:=hd_ (HB3.out.trans (hb4.mono HB3.out.size));have HX4:=hd_ (HX3.out.below hb4 HX3.out.lt);clear hb4 z0 z1 z2 z3 z4;obtain⟨z0,z1,z2,z3,z4⟩:=z3r (x:=x) HX4.out;obtain⟨⟨v0,-,-,-,-⟩,fz⟩:=HCELL.out w4 HB4.out;have HN:=hd_ (HK.out.next HB4.out HPX.out HTX.out (by rw[List.length_take];omega) HKD.out h1 h2 hB (Nat.le_trans hBw HK.out.low.size))
        go_wp2_with fail;go_roundw
        case rel=>exact⟨k+1,by omega,by go_num,HN⟩
        case measure=>simp [intOf];omega
  ·have hke:k=ps.length:=by omega
   have HO0:Hid (zjv wr B (.slice Ap ps.length c) (ps.map (zf7 op dt))):=hd_ (by
    have:=HK.out.own;rw[hke,List.take_length,List.drop_length,List.append_nil] at this;exact this)
   have HL:=hd_ HK.out.low;have HC:=hd_ (HBK.out wr HL.out HO0.out);have HBW:=hd_ (Nat.le_trans hBw HK.out.low.size);clear hke HK;go_wp2_with fail;refine HC.out.mono ?_;rintro e w1 ⟨rfl,ho,hb⟩;have HO1:=hd_ ho;have HL1:=hd_ (HL.out.trans hb);have HS1:=hd_ (Nat.le_trans HBW.out hb.size);have HC2:=hd_ (HRS.out w1 HL1.out ho);clear ho hb;go_wp2_with fail;refine HC2.out.mono ?_;rintro e w2 ⟨u,rfl,hu,hb⟩;have HL2:=hd_ (HL1.out.trans (hb.mono HS1.out));have HO2:=hd_ (show zjv w2 B _ P1 from z0n HO1.out hb);obtain⟨Au,cu,rfl,-⟩:=id hu;clear hu hb;by_cases hr:1024<RL.length
   ·have HF:=hd_ (HR1.out hr w2 HL2.out);go_wp2_with fail;exact HF.out
   ·have HF:=hd_ (HR2.out hr w2 HL2.out HO2.out);go_wp2_with fail;exact HF.out
theorem znk (ex:Bool)(l r:Pat)(s:ByteArray)(A B:Option Addr)(a b:Nat)(w:World)(he:Env w)(hs:s.size≤1000000)(hl:za9 w (.slice A l.parts.length a) l)(hr:za9 w (.slice B r.parts.length b) r)(h1:z7e l=0)(h2:z7e r=0)(h3:za2 l=za2 r)(h4:l.rest=r.rest)(hf:∀ caps,z8e l s=some caps→zbv r caps)
  (hF:∀ X caps cv,Below w.heap.size w X→Strs X cv caps→zbv r caps→Calls prog 226 #[.agg #[.slice B r.parts.length b,.bool r.rest],cv] X fun e w'=>e=.returned (.tuple #[.string (zbu r caps),.int .i64 0])∧Below X.heap.size X w'):
  Calls prog 188 #[.agg #[.bool ex,.slice A l.parts.length a,.bool l.rest,.slice B r.parts.length b,.bool r.rest],.string s] w (zc3 w (zc2 l r s)):=by
 have hB:=z0l w [.bool ex,.slice A l.parts.length a,.bool l.rest,.slice B r.parts.length b,.bool r.rest] 119;have hA:Below w.heap.size w (w.alloc (.cells #[.bool ex,.slice A l.parts.length a,.bool l.rest,.slice B r.parts.length b,.bool r.rest] 119)):=(Below.refl _ _).alloc (Nat.le_refl _) _;have HC:=hd_ (fun X (hX:Below w.heap.size w X)=>znj ex l r A B a b X (hl.below hX) (hr.below hX) h1 h2 h3 h4);have HM:=hd_ (fun X (hX:Below w.heap.size w X)=>zcd l s A a X (he.below hX) hs (hl.below hX).1 hl.small);have HFI:=hd_ hF;have HF:=hd_ hf;have HR:Hid (zc2 l r s=(z8e l s).map (zbu r)):=hd_ rfl;clear he hl hr hf hF h1 h2 h3 h4;generalize zc2 l r s=o at HR ⊢;go_enter func188,ntmps188;go_upto_region 1 with fail;generalize w.alloc (.cells #[.bool ex,.slice A l.parts.length a,.bool l.rest,.slice B r.parts.length b,.bool r.rest] 119)=W1 at hA hB ⊢;obtain⟨d0,d1,d2,d3,d4⟩:=(⟨hB.cell 0,hB.cell 1,hB.cell 2,hB.cell 3,hB.cell 4⟩:W1.cell? ⟨w.heap.size,0,none⟩=some (.bool ex)∧W1.cell? ⟨w.heap.size,1,none⟩=some (.slice A l.parts.length a)∧W1.cell? ⟨w.heap.size,2,none⟩=some (.bool l.rest)∧W1.cell? ⟨w.heap.size,3,none⟩=some (.slice B r.parts.length b)∧W1.cell? ⟨w.heap.size,4,none⟩=some (.bool r.rest));have HB:=hd_ hB;have HA:=hd_ hA;have HC1:=hd_ (HC.out W1 hA);clear hA hB HC;go_wp2_with fail;refine HC1.out.mono ?_;rintro e w2 ⟨rfl,hb⟩;dsimp only;have HX2:=hd_ (HB.out.below hb HB.out.lt);have HB2:=hd_ (z0r HA.out hb);have HM2:=hd_ (HM.out w2 HB2.out);clear hb d0 d1 d2 d3 d4 HC1 HM HB;obtain⟨d1,d2⟩:=(⟨HX2.out.cell 1,HX2.out.cell 2⟩:w2.cell? ⟨w.heap.size,1,none⟩=some (.slice A l.parts.length a)∧w2.cell? ⟨w.heap.size,2,none⟩=some (.bool l.rest));go_wp2_with fail;refine HM2.out.mono ?_;rintro e w3 ⟨A3,n3,c3,rfl,hb,hm⟩;dsimp only;have HB3:=hd_ (z0r HB2.out hb);have HX3:=hd_ (HX2.out.below hb HX2.out.lt);clear hb d1 d2 HM2 HX2;cases hq:z8e l s with
 | none =>
  rw[hq] at HR;have HR2:Hid (o=none):=hd_ HR.out;clear hm hq HR;go_wp2_with fail;go_ret2;exact⟨by rw[HR2.out];rfl,HB3.out⟩
 | some caps =>
  rw[hq] at HR;have HR2:Hid (o=some (zbu r caps)):=hd_ HR.out;obtain⟨-,hst⟩:=hm caps hq;have HCA:=hd_ (HFI.out w3 caps _ HB3.out hst (HF.out caps hq));clear hm hq HR hst HFI HF;obtain⟨d3,d4⟩:=(⟨HX3.out.cell 3,HX3.out.cell 4⟩:w3.cell? ⟨w.heap.size,3,none⟩=some (.slice B r.parts.length b)∧w3.cell? ⟨w.heap.size,4,none⟩=some (.bool r.rest));go_wp2_with fail;refine HCA.out.mono ?_;rintro e w4 ⟨rfl,hb⟩;dsimp only;have HB4:=hd_ (z0r HB3.out hb);clear hb d3 d4 HCA;go_wp2_with fail;go_ret2;exact⟨by rw[HR2.out];rfl,HB4.out⟩
section
variable {u0 u1 u2 u3 u4 u5 u6 u7 u8 u9 gn gt gu gx gy gz gA gC gD gE gF gG gH gI gJ gK gL gM gN gO gP gQ gR gT gV gW gX gY gZ : Value}
theorem znw {w:World}{g:Nat}{t:TypeId}{cs:List Value}{v:Value}{l:List ByteArray}(hB:Blk w g t cs)(hns:∀ u∈cs,∀ s,u≠.string s)(h:Strs w v l)(i:Nat)(u:Value):Strs (w.setCell ⟨g,i,none⟩ u) v l:=by
  obtain⟨A,c,rfl,hc,hm,hl,h0,hx⟩:=h;refine⟨A,c,rfl,hc,hm,hl,h0,fun hn=>?_⟩;obtain⟨ad,rfl,hb,hcell⟩:=hx hn;refine⟨ad,rfl,by simpa using hb,fun j x hx2=>?_⟩
  have hq:=hcell j x hx2;by_cases hg:ad.block=g
  · exfalso
    rw[List.getElem?_map] at hx2;obtain⟨s,-,rfl⟩:=Option.map_eq_some_iff.1 hx2;unfold World.cell? at hq
    unfold Blk at hB;rw[show (ad.add j).block=g from (z00 ad j).trans hg,hB] at hq;simp at hq
    exact hns _ (List.mem_of_getElem? hq.2) s rfl
  · rw[World.cell?_setCell_far _ _ _ _ (fun e=>hg ((z00 ad j).symm.trans e.symm))]
    exact hq
theorem rt_end2 {w6:World}{g n m c d:Nat}{A C:Option Addr}{b1 b2 b3:Bool}{v:Value}{l:List ByteArray}(hB:Blk w6 g 119 [.bool false,.slice none 0 0,.bool false,.slice none 0 0,.bool false])(h:Strs w6 v l):
    Strs (((((w6.setCell ⟨g,0,none⟩ (.bool b1)).setCell ⟨g,1,none⟩ (.slice A n c)).setCell ⟨g,2,none⟩ (.bool b2)).setCell ⟨g,3,none⟩ (.slice C m d)).setCell ⟨g,4,none⟩ (.bool b3)) v l:=by
  have g1:=znw hB (by simp) h 0 (.bool b1)
  have B1:=hB.set_ 0 (.bool b1);have g2:=znw B1 (by simp) g1 1 (.slice A n c)
  have B2:=B1.set_ 1 (.slice A n c);have g3:=znw B2 (by simp) g2 2 (.bool b2)
  have B3:=B2.set_ 2 (.bool b2);have g4:=znw B3 (by simp) g3 3 (.slice C m d)
  have B4:=B3.set_ 3 (.slice C m d);exact znw B4 (by simp) g4 4 (.bool b3)
theorem rrR5 (ops:Array Oper)(hops:Tryz.f138.body.bind (zci 5)=some ops)(Q:Exit→Act→World→Prop)(l r h m:Pat)(A B C H:Option Addr)(a b c n hc g1 g6:Nat)(V1:World)
    (h1:Blk V1 g1 100 [.slice A l.parts.length a,.bool l.rest,.slice C r.parts.length c,.bool r.rest,.slice H n hc]) (h6:zbo V1 g6 (.slice B h.parts.length b) h.rest)
    (hl:za9 V1 (.slice A l.parts.length a) l) (hh:za9 V1 (.slice B h.parts.length b) h) (hr:za9 V1 (.slice C r.parts.length c) r) (hn:zcw l r h m) (hsym:znr l h)
    (hQ:∀(en eo er et eu ez eA eB:Value) (g7:Nat) (A' C':Option Addr) (a' c':Nat) (w':World),Below V1.heap.size V1 w'→w'.cell? ⟨g7,3,none⟩=some (.slice C' (zcv l r m).parts.length c')→w'.cell? ⟨g7,4,none⟩=some (.bool true)→V1.heap.size≤g7→za9 w' (.slice C' (zcv l r m).parts.length c') (zcv l r m)→Q .normal ⟨#[u0,.pointer (some ⟨g1,0,none⟩),u2,u3,u4,u5,.pointer (some ⟨g6,0,none⟩),.pointer (some ⟨g7,0,none⟩),.bool true,.int .i64 0,gn,gt,gu,gx,gy,gz,gA,en,eo,er,et,eu,ez,eA,eB,gK,gL,gM,gN,gO,gP,gQ,gR,gT,gV,gW,gX,gY,gZ],[]⟩ w'):
    (Code.region 5 ops true).wp prog Q ⟨#[u0,.pointer (some ⟨g1,0,none⟩),u2,u3,u4,u5,.pointer (some ⟨g6,0,none⟩),u7,u8,u9,gn,gt,gu,gx,gy,gz,gA,gC,gD,gE,gF,gG,gH,gI,gJ,gK,gL,gM,gN,gO,gP,gQ,gR,gT,gV,gW,gX,gY,gZ],[]⟩ V1:=by
  simp only[Tryz.f138,Option.bind_some,zci] at hops
  simp at hops
  subst hops;have HQ:=hd_ hQ;have H6:=hd_ h6;have HLI:=hd_ (fun X=>znu A C l.parts.length r.parts.length a c l.rest r.rest (.slice H n hc) X);have HNA:=hd_ (fun X (hX:Below V1.heap.size V1 X)=>zns false l r h m A B C a b c X (hl.below hX) (hh.below hX) (hr.below hX) hn hsym);obtain⟨x0,x1,x2,x3,x4⟩:=(⟨h1.cell 0,h1.cell 1,h1.cell 2,h1.cell 3,h1.cell 4⟩:V1.cell? ⟨g1,0,none⟩=some (.slice A l.parts.length a)∧V1.cell? ⟨g1,1,none⟩=some (.bool l.rest)∧V1.cell? ⟨g1,2,none⟩=some (.slice C r.parts.length c)∧V1.cell? ⟨g1,3,none⟩=some (.bool r.rest)∧V1.cell? ⟨g1,4,none⟩=some (.slice H n hc));have y0:=h6.c0;have y1:=h6.c1;have hVA:Below V1.heap.size V1 (V1.alloc (.cells #[.bool false,.slice none 0 0,.bool false,.slice none 0 0,.bool false] 119)).drew:=((Below.refl _ _).alloc (Nat.le_refl _) _).drew;have a0:(V1.alloc (.cells #[.bool false,.slice none 0 0,.bool false,.slice none 0 0,.bool false] 119)).drew.cell? ⟨g6,0,none⟩=some (.slice B h.parts.length b):=(h6.low hVA).c0;have a1:(V1.alloc (.cells #[.bool false,.slice none 0 0,.bool false,.slice none 0 0,.bool false] 119)).drew.cell? ⟨g6,1,none⟩=some (.bool h.rest):=(h6.low hVA).c1;have hq:=h1.below hVA h1.lt;obtain⟨b0,b1,b2,b3,b4⟩:=(⟨hq.cell 0,hq.cell 1,hq.cell 2,hq.cell 3,hq.cell 4⟩:(V1.alloc (.cells #[.bool false,.slice none 0 0,.bool false,.slice none 0 0,.bool false] 119)).drew.cell? ⟨g1,0,none⟩=some (.slice A l.parts.length a)∧(V1.alloc (.cells #[.bool false,.slice none 0 0,.bool false,.slice none 0 0,.bool false] 119)).drew.cell? ⟨g1,1,none⟩=some (.bool l.rest)∧(V1.alloc (.cells #[.bool false,.slice none 0 0,.bool false,.slice none 0 0,.bool false] 119)).drew.cell? ⟨g1,2,none⟩=some (.slice C r.parts.length c)∧(V1.alloc (.cells #[.bool false,.slice none 0 0,.bool false,.slice none 0 0,.bool false] 119)).drew.cell? ⟨g1,3,none⟩=some (.bool r.rest)∧(V1.alloc (.cells #[.bool false,.slice none 0 0,.bool false,.slice none 0 0,.bool false] 119)).drew.cell? ⟨g1,4,none⟩=some (.slice H n hc));clear hQ h1 h6 hl hh hr hn hsym hVA hq;refine wp_region_noPanic ?_
  go_region_law (first
    | (go_simp;go_at_call 135;refine (HLI.out _).mono ?_;rintro e w5 ⟨rfl,hX5⟩;have hS5:Below V1.heap.size V1 w5:=(by repeat (first | exact Below.refl _ _ | refine Below.drew ?_ | refine zcf ?_ _):Below V1.heap.size V1 _).trans (hX5.mono (by simp));have z0:w5.cell? ⟨g6,0,none⟩=some (.slice B h.parts.length b):=(H6.out.low hS5).c0;have z1:w5.cell? ⟨g6,1,none⟩=some (.bool h.rest):=(H6.out.low hS5).c1;have z2:(w5.alloc (.cells #[.bool false,.slice none 0 0,.bool false,.slice none 0 0,.bool false] 119)).cell? ⟨g6,0,none⟩=some (.slice B h.parts.length b):=(H6.out.low (hS5.alloc hS5.size _)).c0;have z3:(w5.alloc (.cells #[.bool false,.slice none 0 0,.bool false,.slice none 0 0,.bool false] 119)).cell? ⟨g6,1,none⟩=some (.bool h.rest):=(H6.out.low (hS5.alloc hS5.size _)).c1)
    | (go_simp;go_at_call 183;refine (HNA.out _ (by repeat (first | exact hS5 | refine Below.drew ?_ | refine zcf ?_ _))).mono ?_;rintro e w6 ⟨hX6,A',c',C',d',rfl,-,hin⟩;(try (have hblk:=Blk.below (z0l w5 [.bool false,.slice none 0 0,.bool false,.slice none 0 0,.bool false] 119) hX6 (by simp);have hge:V1.heap.size≤w5.heap.size:=hS5.size;have hS6:=z0r (hS5.alloc hS5.size _) hX6;have qq:=zde hblk;obtain⟨⟨p0,p1,p2,p3,p4⟩,k0,k1,k2,k3,k4⟩:=qq));(try (have hblk:=zdf hX5 hX6;have hge:V1.heap.size≤V1.heap.size:=Nat.le_refl _;have hS6:=z0r hS5 hX6;have qq:=zde hblk;obtain⟨⟨p0,p1,p2,p3,p4⟩,k0,k1,k2,k3,k4⟩:=qq))))
  all_goals refine NoPanic.normal ?_
  all_goals first
    | (have hq9:=rt_end hS6 hblk hge (.bool false) (.slice A' m.parts.length c') (.bool true) (.slice C' (zcv l r m).parts.length d') (.bool true)
       obtain⟨e1,e2,e3⟩:=hq9;exact HQ.out _ _ _ _ _ _ _ _ _ A' C' c' d' _ e1 e2 e3 hge ⟨rt_end2 hblk hin.1,hin.2⟩)
    | (have hS6:=z0r hS5 hX6
       have hnew:=z0l w6 [.bool false,.slice A' m.parts.length c',.bool true,.slice C' (zcv l r m).parts.length d',.bool true] 119;exact HQ.out _ _ _ _ _ _ _ _ _ A' C' c' d' _ (hS6.alloc hS6.size _) (hnew.cell 3) (hnew.cell 4) hS6.size (hin.below ((Below.refl _ _).alloc (Nat.le_refl _) _)))
end
def zol (w:World)(l:List Hav)(e:Ending)(w':World):Prop:=∃ v,e=.returned v∧w'.ownsRow w.heap.size 44 3 v l.length (l.flatMap Hav.cells)∧Below w.heap.size w w'
theorem zom (l:List Hav)(v:Value)(h:Hav)(w:World)(he:Env w)(hH:z4b w v l)(hv:∀ x∈l,z2s x.path=true∧x.path.size≤1000000)(hp:z2s h.path=true)(hz:h.path.size≤1000000)(hl:l.length≤1000):
  Calls prog 97 #[v,.agg #[.string h.path,.int .i64 h.num,.string h.loc]] w (zol w (zlr l h)):=by
 obtain⟨A,c,rfl,-⟩:=id hH;have hA:Below w.heap.size w (w.alloc (.cells #[.string h.path,.int .i64 h.num,.string h.loc] 44)):=(Below.refl _ _).alloc (Nat.le_refl _) _;have hB:=z0l w [.string h.path,.int .i64 h.num,.string h.loc] 44;have HF:=hd_ (zm3 l _ h.path _ (he.below hA) (hH.under hA) hv hp hz (by omega))
 have HH:=hd_ hH;have HB:=hd_ hB;have HA:=hd_ hA;obtain⟨hle,hlt⟩:=zls l h.path;have HPUT:Hid (zlr l h=l.take (zlq l h.path).1++h :: l.drop ((zlq l h.path).1+if (zlq l h.path).2 then 1 else 0)):=hd_ rfl;obtain⟨i,hi⟩:∃ i,(zlq l h.path).1=i:=⟨_,rfl⟩;obtain⟨b,hb⟩:∃ b,(zlq l h.path).2=b:=⟨_,rfl⟩;rw[hi,hb] at HF HPUT;rw[hi] at hle hlt;rw[hb] at hlt;have HLT:=hd_ hlt;clear hA he hH hv hp hz hi hb hlt;obtain⟨f0,-,-⟩:=z3s (x:=h) hB;clear hB;go_enter func97,ntmps97;go_upto_region 2 with fail;refine HF.out.mono ?_;rintro e w2 ⟨rfl,hb2⟩;have HB2:=hd_ (HB.out.below hb2 HB.out.lt);have HA2:=hd_ (z0r HA.out hb2);clear hb2 f0 HF;go_upto_region 2 with fail;refine puR2 _ (by kernel_rfl) _ w2 A c w.heap.size i l h (HH.out.under HA2.out) HB2.out hle (by omega) ?_
 intro el em en eo er et eu A' c' w3 HO;have HB3:=hd_ (z0r HA2.out HO.out.1);have hown:w3.ownsRow w.heap.size 44 3 (.slice A' (i+1) c') (i+1) ((l.take i++[h]).flatMap Hav.cells):=z4p HO.out.2 HA2.out.size;have HOWN:=hd_ hown;have hbs:=HB3.out.size;have HFIN:Hid (∀(b':Nat) (v:Value) (n:Nat) (w':World),n=(i+1)+(l.length - b')→b'≤l.length→b'=i+(if b=true then 1 else 0)→w'.ownsRow w.heap.size 44 3 v n ((l.take i++[h]).flatMap Hav.cells++(l.drop b').flatMap Hav.cells)→w'.ownsRow w.heap.size 44 3 v (zlr l h).length ((zlr l h).flatMap Hav.cells)):=hd_ fun b' v n w' hn hb' hbe ho=>by
  rw[hbe] at ho;have e1:zlr l h=(l.take i++[h])++l.drop (i+if b=true then 1 else 0):=by rw[HPUT.out];simp
  rw[e1,List.flatMap_append];have e2:((l.take i++[h])++l.drop (i+if b=true then 1 else 0)).length=n:=by
   rw[hn,hbe] at *;simp only[List.length_append,List.length_take,List.length_singleton,List.length_drop]
   omega
  rw[e2];exact ho
 clear HO hown;cases b
 ·obtain⟨Af,cf,hsl,hrw⟩:=zm5 (P:=prog) (w:=w3) underlying28 zio (HH.out.under HB3.out) hle;have HR:Hid (Row w3 3 (.slice Af (l.length - i) cf) (l.length - i) ((l.drop i).flatMap Hav.cells)):=hd_ (by rw[← zm8];exact hrw w3 (HH.out.under HB3.out))
  clear hrw;have hol:=HOWN.out;have HDO:Hid (∀ v∈(l.drop i).flatMap Hav.cells,v.oneCell'=true):=hd_ (zm6 _);go_upto_region 5 with fail;go_wp2_with (at_builtin;refine z0j (base:=w.heap.size) rfl rfl z54 HOWN.out rfl HR.out rfl HDO.out (by omega) (by unfold maxLen;omega) hbs ?_;intro A6 c6 w6 hO6 hG6 hw6)
  have hX6:Below w.heap.size w w6:=HB3.out.grown hG6 hbs (fun k e=>(HOWN.out.lt k e).1);go_ret;exact⟨_,rfl,HFIN.out i _ _ _ rfl hle (by simp) hO6,hX6⟩
 ·have hlt:=HLT.out rfl;have hw1:IntKind.i64.wrap ((i:Int)+1)=((i+1:Nat):Int):=by rw[IntKind.wrap_i64];omega
  obtain⟨Af,cf,hsl,hrw⟩:=zm5 (P:=prog) (w:=w3) underlying28 zio (HH.out.under HB3.out) (show i+1≤l.length from hlt);have hsl2:∀ X,(Instr.sliceAt 28 (.slice A l.length c) (some (.int .i64 ((i:Int)+1))) none none).run prog X=.ok (.slice Af (l.length - (i+1)) cf) X:=fun X=>hsl X;have hw2:IntKind.i64.wrap ((i:Int)+1)=(i:Int)+1:=by rw[IntKind.wrap_i64];omega
  clear hw1 hsl;have HR:Hid (Row w3 3 (.slice Af (l.length - (i+1)) cf) (l.length - (i+1)) ((l.drop (i+1)).flatMap Hav.cells)):=hd_ (by rw[← zm8];exact hrw w3 (HH.out.under HB3.out))
  clear hrw;have HDO:Hid (∀ v∈(l.drop (i+1)).flatMap Hav.cells,v.oneCell'=true):=hd_ (zm6 _);go_upto_region 5 with fail;go_wp2_with (at_builtin;refine z0j (base:=w.heap.size) rfl rfl z54 HOWN.out rfl HR.out rfl HDO.out (by omega) (by unfold maxLen;omega) hbs ?_;intro A6 c6 w6 hO6 hG6 hw6)
  have hX6:Below w.heap.size w w6:=HB3.out.grown hG6 hbs (fun k e=>(HOWN.out.lt k e).1);go_ret;exact⟨_,rfl,HFIN.out (i+1) _ _ _ rfl hlt (by simp) hO6,hX6⟩
end Go.Proofs.YtegeboijhifmcaaGreatDoor
