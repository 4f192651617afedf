/- A part. -/
import Derived.Test.YtijghobkkdbhnaaGreatDoorMcw19
import Derived.Test.YtijghobkkdbhnaaGreatDoorMcw16
set_option linter.unusedVariables false
set_option linter.unusedSimpArgs false
set_option maxHeartbeats 8000000
set_option maxRecDepth 100000
namespace Go.Proofs.YtijghobkkdbhnaaGreatDoor
open Go.Proofs.Tryz
open Go.RowKit
open Go.Sort (grow)
structure PlSt (w wr:World)(B b1 b2:Nat)(v:Value)(op dt:List ByteArray)(ps:List Syn)(k:Nat):Prop where
 own:zj7 wr B v ((ps.take k).map (zer op dt)++ps.drop k)
 s1:zja wr b1 op
 s2:zja wr b2 dt
 low:Below B w wr
theorem set_mid {α:Type}(A D:List α)(x y:α)(k:Nat)(hk:A.length=k):(A++x :: D).set k y=A++y :: D:=by
 subst hk;induction A with
 | nil=>rfl
 | cons a r ih=>rw[List.cons_append,List.length_cons,List.set_cons_succ,ih];rfl
theorem get_mid {α:Type}(A D:List α)(x:α)(k:Nat)(hk:A.length=k)(h:k<(A++x :: D).length):(A++x :: D)[k]=x:=by subst hk;simp
theorem PlSt.next {w wr W:World}{B b1 b2 g c n:Nat}{op dt:List ByteArray}{ps:List Syn}{k:Nat}{x:Syn}{q:Int}(H:PlSt w wr B b1 b2 (.slice (some ⟨g,0,none⟩) n c) op dt ps k)(hX:zB wr W)
  (hp:ps.drop k=x :: ps.drop (k+1)) (ht:ps.take (k+1)=ps.take k++[x]) (hk:(ps.take k).length=k) (hq:zeq op dt x=q) (h1:b1≠g) (h2:b2≠g) (hB:B≤g) (hs:B≤wr.heap.size):
  PlSt w (W.setCell ⟨g,k * 5,none⟩ (.int .i64 q)) B b1 b2 (.slice (some ⟨g,0,none⟩) n c) op dt ps (k+1):=by
 have hO:zj7 W B (.slice (some ⟨g,0,none⟩) n c) ((ps.take k).map (zer op dt)++x :: ps.drop (k+1)):=by
  have:=z0n H.own hX;rw[hp] at this;exact this
 have hlt:k<((ps.take k).map (zer op dt)++x :: ps.drop (k+1)).length:=by rw[List.length_append,List.length_map,hk,List.length_cons];omega
 have hO2:=zj7.put hO hlt q;have hx:((ps.take k).map (zer op dt)++x :: ps.drop (k+1))[k]=x:=get_mid _ _ _ _ (by rw[List.length_map,hk]) hlt
 rw[hx,set_mid _ _ _ _ _ (by rw[List.length_map,hk])] at hO2
 have hkd:zj8 q x=zer op dt x:=by rw[← hq];rfl
 refine⟨?_,z2k.setCell (z2k.below H.s1 hX) (fun e=>h1 e.symm) _,z2k.setCell (z2k.below H.s2 hX) (fun e=>h2 e.symm) _,(H.low.trans (hX.mono hs)).setCell hB _⟩;rw[ht,List.map_append,List.append_assoc];rw[hkd] at hO2;exact hO2
theorem plT8 (T:Code)(hT:Tryz.f12.body.bind (zhg 8)=some T)(R:Ending→World→Prop)(w:World)(B b1 b2 g c:Nat)(Ap:Option Addr)(ps:List Syn)(op dt:List ByteArray)(hAp:0<ps.length→Ap=some ⟨g,0,none⟩)
  (hI:PlSt w w B b1 b2 (.slice Ap ps.length c) op dt ps 0) (h1:b1≠g) (h2:b2≠g) (hB:B≤g) (hBw:B≤w.heap.size) (hl:ps.length≤1000000)
  (hs RL:List Hav) (Ah:Option Addr) (ch:Nat) (P1:List Syn)
  (hBK:∀ X,Below B w X→zj7 X B (.slice Ap ps.length c) (ps.map (zer op dt))→Calls prog 47 #[.slice Ah hs.length ch,.slice Ap ps.length c] X fun e w'=>e=.returned (.tuple #[])∧zj7 w' B (.slice Ap ps.length c) P1∧Below B X w')
  (hRS:∀ X,Below B w X→zj7 X B (.slice Ap ps.length c) P1→Calls prog 48 #[.slice Ah hs.length ch,.slice Ap ps.length c] X fun e w'=>∃ u,e=.returned u∧z4h w' u RL∧zB X w')
  (hR1:1024<RL.length→∀ X,Below B w X→R (.returned (.tuple #[.slice none 0 0,.int .i64 351])) X)
  (hR2:¬ 1024<RL.length→∀ X,Below B w X→zj7 X B (.slice Ap ps.length c) P1→R (.returned (.tuple #[.slice Ap ps.length c,.int .i64 0])) X)
  (u0 u1 u2 u4 u5 u6 u7 u8 u9 gA gC gE gF gG gK gL gM gN gO gP gQ gR gT gV gW gX gY gZ i6 i7 i8 ia ib ic ie ig ii ij ik il im io ip iq ir iu iv iw ix iy iz iA iB iC iD iE iF iG iH iI iJ iK iL iM iN iO iP iQ iR iS iT iU iV iW iX iY iZ j0 j1 j2 j5 j6 j7 j8 j9 jb jd jf jg jh ji jj jk:Value):
  T.wp prog (bodyPost prog Tryz.f12 R) ⟨#[u0,u1,u2,.slice Ah hs.length ch,u4,u5,u6,u7,u8,u9,gA,gC,.slice none 0 0,gE,gF,gG,.slice Ap ps.length c,.map (some b1),.map (some b2),gK,gL,gM,gN,gO,gP,gQ,gR,gT,gV,gW,gX,gY,gZ,i6,i7,i8,ia,ib,ic,ie,ig,ii,ij,ik,il,im,io,ip,iq,ir,iu,iv,iw,ix,iy,iz,iA,iB,iC,iD,iE,iF,iG,iH,iI,iJ,iK,iL,iM,iN,iO,iP,iQ,iR,iS,iT,iU,iV,iW,iX,iY,iZ,j0,j1,j2,j5,j6,j7,j8,j9,jb,jd,jf,jg,jh,ji,jj,jk],[]⟩ w:=by
 simp only[Tryz.f12,Option.bind_some,zhg,zhf] at hT
 simp at hT
 subst hT;have HI:=hd_ hI;have HBK:=hd_ hBK;have HRS:=hd_ hRS;have HR1:=hd_ hR1;have HR2:=hd_ hR2;clear hI hBK hRS hR1 hR2;go_wp2_with fail;go_loopw [43] (fun i wr=>∃ k:Nat,k≤ps.length∧i=.int .i64 k∧Hid (PlSt w wr B b1 b2 (.slice Ap ps.length c) op dt ps k)) (fun i _=>ps.length - (intOf i).toNat)
 case atStart=>exact⟨0,Nat.zero_le _,rfl,HI⟩
 case round =>
  obtain⟨k,hk,rfl,HK⟩:=hrel;by_cases hlt:k<ps.length
  ·obtain rfl:=hAp (by omega)
   have hlt2:k<((ps.take k).map (zer op dt)++ps.drop k).length:=by simp;omega
   have hx:((ps.take k).map (zer op dt)++ps.drop k)[k]=ps[k]:=by
    rw[List.getElem_append_right (by rw[List.length_map,List.length_take];exact Nat.min_le_left _ _)]
    simp [Nat.min_eq_left hk]
   obtain⟨⟨y0,y1,y2,y3,y4⟩,fz⟩:=zj7.cell HK.out.own hlt2;rw[hx] at y0 y1 y2 y3 y4;have HPX:=hd_ (show ps.drop k=ps[k] :: ps.drop (k+1) from List.drop_eq_getElem_cons hlt);have HTX:=hd_ (show ps.take (k+1)=ps.take k++[ps[k]] from List.take_succ_eq_append_getElem hlt);generalize ps[k]=x at y0 y1 y2 y3 y4 hx HPX HTX;clear hx fz hlt2;have HH1:=hd_ (fun X (hX:zB wr X)=>zjc op b1 x.path X (z2k.below HK.out.s1 hX));have hA:zB wr (wr.alloc (.cells #[.int .i64 x.kind,.string x.path,.int .i64 x.num,.string x.frm,.string x.dst] 50)):=(Below.refl _ _).alloc (Nat.le_refl _) _;have HC1:=hd_ (HH1.out _ hA);have HA:=hd_ hA;obtain⟨z0,z1,z2,z3,z4⟩:=z3w (x:=x) (z0l wr [.int .i64 x.kind,.string x.path,.int .i64 x.num,.string x.frm,.string x.dst] 50);have HBX:=hd_ (z0l wr [.int .i64 x.kind,.string x.path,.int .i64 x.num,.string x.frm,.string x.dst] 50);clear hA;by_cases hop:x.path∈op
   ·have HKD:Hid (zeq op dt x=6):=hd_ (if_pos hop);rw[decide_eq_true hop] at HC1;clear hop;go_wp2_with fail;refine HC1.out.mono ?_;rintro e w1 ⟨rfl,hb1⟩;have HB1:=hd_ (HA.out.trans (hb1.mono HA.out.size));clear hb1;have HO1:=hd_ (z0n HK.out.own HB1.out);obtain⟨⟨v0,-,-,-,-⟩,fz⟩:=zj7.cell (show zj7 w1 B (.slice (some ⟨g,0,none⟩) ps.length c) ((ps.take k).map (zer op dt)++ps.drop k) from HO1.out) (k:=k) (by simp;omega)
    clear y0 y1 y2 y3 y4 z0 z1 z2 z3 z4;have HN:=hd_ (HK.out.next HB1.out HPX.out HTX.out (by rw[List.length_take];omega) HKD.out h1 h2 hB (Nat.le_trans hBw HK.out.low.size))
    go_wp2_with fail;go_roundw
    case rel=>exact⟨k+1,by omega,by go_num,HN⟩
    case measure=>simp [intOf];omega
   ·have HOP:=hd_ hop;rw[decide_eq_false hop] at HC1;clear hop;have HF1:=hd_ (fun X (hX:zB wr X)=>zjc dt b2 x.frm X (z2k.below HK.out.s2 hX));have HD1:=hd_ (fun X (hX:zB wr X)=>zjc dt b2 x.dst X (z2k.below HK.out.s2 hX));have HCELL:=hd_ (fun X (hX:zB wr X)=>zj7.cell (show zj7 X B (.slice (some ⟨g,0,none⟩) ps.length c) ((ps.take k).map (zer op dt)++ps.drop k) from z0n HK.out.own hX) (k:=k) (by simp;omega))
    go_wp2_with fail;refine HC1.out.mono ?_;rintro e w1 ⟨rfl,hb1⟩;have HB1:=hd_ (HA.out.trans (hb1.mono HA.out.size));have HX1:=hd_ (HBX.out.below hb1 HBX.out.lt);clear hb1 y0 y1 y2 y3 y4 z0 z1 z2 z3 z4;obtain⟨z0,z1,z2,z3,z4⟩:=z3w (x:=x) HX1.out;by_cases hf:x.frm=z2q
    ·by_cases hd:x.dst=z2q
     ·have HFE:=hd_ hf;obtain⟨s1,s2⟩:=z40 hf;have HDE:=hd_ hd;obtain⟨t1,t2⟩:=z40 hd;have HKD:Hid (zeq op dt x=z3u x.frm x.dst):=hd_ (by unfold zeq;rw[if_neg HOP.out,if_neg (fun h=>h.elim (fun h=>h.1 HFE.out) (fun h=>h.1 HDE.out))])
      clear hf hd;have HKC:=hd_ (z43 x w1);go_wp2_with fail;refine HKC.out.mono ?_;rintro e w2 ⟨rfl,hb2⟩;have HB2:=hd_ (HB1.out.trans (hb2.mono HB1.out.size));have HX2:=hd_ (HX1.out.below hb2 HX1.out.lt);clear hb2 z0 z1 z2 z3 z4;obtain⟨z0,z1,z2,z3,z4⟩:=z3w (x:=x) HX2.out;obtain⟨⟨v0,-,-,-,-⟩,fz⟩:=HCELL.out w2 HB2.out;have HN:=hd_ (HK.out.next HB2.out HPX.out HTX.out (by rw[List.length_take];omega) HKD.out h1 h2 hB (Nat.le_trans hBw HK.out.low.size))
      go_wp2_with fail;go_roundw
      case rel=>exact⟨k+1,by omega,by go_num,HN⟩
      case measure=>simp [intOf];omega
     ·by_cases hdd:x.dst∈dt
      ·have HFE:=hd_ hf;obtain⟨s1,s2⟩:=z40 hf;have HDE:=hd_ hd;obtain⟨t1,t2⟩:=z41 hd;have HDD:=hd_ hdd;have HKD:Hid (zeq op dt x=5):=hd_ (by unfold zeq;rw[if_neg HOP.out,if_pos (.inr ⟨HDE.out,HDD.out⟩)])
       clear hf hd hdd;have HCD:=hd_ (HD1.out w1 HB1.out);rw[decide_eq_true HDD.out] at HCD;go_wp2_with fail;refine HCD.out.mono ?_;rintro e w2 ⟨rfl,hb2⟩;have HB2:=hd_ (HB1.out.trans (hb2.mono HB1.out.size));have HX2:=hd_ (HX1.out.below hb2 HX1.out.lt);clear hb2 z0 z1 z2 z3 z4;obtain⟨z0,z1,z2,z3,z4⟩:=z3w (x:=x) HX2.out;obtain⟨⟨v0,-,-,-,-⟩,fz⟩:=HCELL.out w2 HB2.out;have HN:=hd_ (HK.out.next HB2.out HPX.out HTX.out (by rw[List.length_take];omega) HKD.out h1 h2 hB (Nat.le_trans hBw HK.out.low.size))
       go_wp2_with fail;go_roundw
       case rel=>exact⟨k+1,by omega,by go_num,HN⟩
       case measure=>simp [intOf];omega
      ·have HFE:=hd_ hf;obtain⟨s1,s2⟩:=z40 hf;have HDE:=hd_ hd;obtain⟨t1,t2⟩:=z41 hd;have HDD:=hd_ hdd;have HKD:Hid (zeq op dt x=z3u x.frm x.dst):=hd_ (by unfold zeq;rw[if_neg HOP.out,if_neg (fun h=>h.elim (fun h=>h.1 HFE.out) (fun h=>HDD.out h.2))])
       clear hf hd hdd;have HCD:=hd_ (HD1.out w1 HB1.out);rw[decide_eq_false HDD.out] at HCD;go_wp2_with fail;refine HCD.out.mono ?_;rintro e w2 ⟨rfl,hb2⟩;have HB2:=hd_ (HB1.out.trans (hb2.mono HB1.out.size));have HX2:=hd_ (HX1.out.below hb2 HX1.out.lt);clear hb2 z0 z1 z2 z3 z4;obtain⟨z0,z1,z2,z3,z4⟩:=z3w (x:=x) HX2.out;have HKC:=hd_ (z43 x w2);go_wp2_with fail;refine HKC.out.mono ?_;rintro e w3 ⟨rfl,hb3⟩;have HB3:=hd_ (HB2.out.trans (hb3.mono HB2.out.size));have HX3:=hd_ (HX2.out.below hb3 HX2.out.lt);clear hb3 z0 z1 z2 z3 z4;obtain⟨z0,z1,z2,z3,z4⟩:=z3w (x:=x) HX3.out;obtain⟨⟨v0,-,-,-,-⟩,fz⟩:=HCELL.out w3 HB3.out;have HN:=hd_ (HK.out.next HB3.out HPX.out HTX.out (by rw[List.length_take];omega) HKD.out h1 h2 hB (Nat.le_trans hBw HK.out.low.size))
       go_wp2_with fail;go_roundw
       case rel=>exact⟨k+1,by omega,by go_num,HN⟩
       case measure=>simp [intOf];omega
    ·by_cases hfd:x.frm∈dt
     ·have HFE:=hd_ hf;obtain⟨s1,s2⟩:=z41 hf;have HCF:=hd_ (HF1.out w1 HB1.out);rw[decide_eq_true hfd] at HCF;have HFD:=hd_ hfd;have HKD:Hid (zeq op dt x=5):=hd_ (by unfold zeq;rw[if_neg HOP.out,if_pos (.inl ⟨HFE.out,HFD.out⟩)])
      clear hf hfd;go_wp2_with fail;refine HCF.out.mono ?_;rintro e w2 ⟨rfl,hb2⟩;have HB2:=hd_ (HB1.out.trans (hb2.mono HB1.out.size));have HX2:=hd_ (HX1.out.below hb2 HX1.out.lt);clear hb2 z0 z1 z2 z3 z4;obtain⟨z0,z1,z2,z3,z4⟩:=z3w (x:=x) HX2.out;obtain⟨⟨v0,-,-,-,-⟩,fz⟩:=HCELL.out w2 HB2.out;have HN:=hd_ (HK.out.next HB2.out HPX.out HTX.out (by rw[List.length_take];omega) HKD.out h1 h2 hB (Nat.le_trans hBw HK.out.low.size))
      go_wp2_with fail;go_roundw
      case rel=>exact⟨k+1,by omega,by go_num,HN⟩
      case measure=>simp [intOf];omega
     ·by_cases hd:x.dst=z2q
      ·have HFE:=hd_ hf;obtain⟨s1,s2⟩:=z41 hf;have HCF:=hd_ (HF1.out w1 HB1.out);rw[decide_eq_false hfd] at HCF;have HFD:=hd_ hfd;have HDE:=hd_ hd;obtain⟨t1,t2⟩:=z40 hd;have HKD:Hid (zeq op dt x=z3u x.frm x.dst):=hd_ (by unfold zeq;rw[if_neg HOP.out,if_neg (fun h=>h.elim (fun h=>HFD.out h.2) (fun h=>h.1 HDE.out))])
       clear hf hfd hd;go_wp2_with fail;refine HCF.out.mono ?_;rintro e w2 ⟨rfl,hb2⟩;have HB2:=hd_ (HB1.out.trans (hb2.mono HB1.out.size));have HX2:=hd_ (HX1.out.below hb2 HX1.out.lt);clear hb2 z0 z1 z2 z3 z4;obtain⟨z0,z1,z2,z3,z4⟩:=z3w (x:=x) HX2.out;have HKC:=hd_ (z43 x w2);go_wp2_with fail;refine HKC.out.mono ?_;rintro e w3 ⟨rfl,hb3⟩;have HB3:=hd_ (HB2.out.trans (hb3.mono HB2.out.size));have HX3:=hd_ (HX2.out.below hb3 HX2.out.lt);clear hb3 z0 z1 z2 z3 z4;obtain⟨z0,z1,z2,z3,z4⟩:=z3w (x:=x) HX3.out;obtain⟨⟨v0,-,-,-,-⟩,fz⟩:=HCELL.out w3 HB3.out;have HN:=hd_ (HK.out.next HB3.out HPX.out HTX.out (by rw[List.length_take];omega) HKD.out h1 h2 hB (Nat.le_trans hBw HK.out.low.size))
       go_wp2_with fail;go_roundw
       case rel=>exact⟨k+1,by omega,by go_num,HN⟩
       case measure=>simp [intOf];omega
      ·by_cases hdd:x.dst∈dt
       ·have HFE:=hd_ hf;obtain⟨s1,s2⟩:=z41 hf;have HCF:=hd_ (HF1.out w1 HB1.out);rw[decide_eq_false hfd] at HCF;have HFD:=hd_ hfd;have HDE:=hd_ hd;obtain⟨t1,t2⟩:=z41 hd;have HDD:=hd_ hdd;have HKD:Hid (zeq op dt x=5):=hd_ (by unfold zeq;rw[if_neg HOP.out,if_pos (.inr ⟨HDE.out,HDD.out⟩)])
        clear hf hfd hd hdd;go_wp2_with fail;refine HCF.out.mono ?_;rintro e w2 ⟨rfl,hb2⟩;have HB2:=hd_ (HB1.out.trans (hb2.mono HB1.out.size));have HX2:=hd_ (HX1.out.below hb2 HX1.out.lt);clear hb2 z0 z1 z2 z3 z4;obtain⟨z0,z1,z2,z3,z4⟩:=z3w (x:=x) HX2.out;have HCD:=hd_ (HD1.out w2 HB2.out);rw[decide_eq_true HDD.out] at HCD;go_wp2_with fail;refine HCD.out.mono ?_;rintro e w3 ⟨rfl,hb3⟩;have HB3:=hd_ (HB2.out.trans (hb3.mono HB2.out.size));have HX3:=hd_ (HX2.out.below hb3 HX2.out.lt);clear hb3 z0 z1 z2 z3 z4;obtain⟨z0,z1,z2,z3,z4⟩:=z3w (x:=x) HX3.out;obtain⟨⟨v0,-,-,-,-⟩,fz⟩:=HCELL.out w3 HB3.out;have HN:=hd_ (HK.out.next HB3.out HPX.out HTX.out (by rw[List.length_take];omega) HKD.out h1 h2 hB (Nat.le_trans hBw HK.out.low.size))
        go_wp2_with fail;go_roundw
        case rel=>exact⟨k+1,by omega,by go_num,HN⟩
        case measure=>simp [intOf];omega
       ·have HFE:=hd_ hf;obtain⟨s1,s2⟩:=z41 hf;have HCF:=hd_ (HF1.out w1 HB1.out);rw[decide_eq_false hfd] at HCF;have HFD:=hd_ hfd;have HDE:=hd_ hd;obtain⟨t1,t2⟩:=z41 hd;have HDD:=hd_ hdd;have HKD:Hid (zeq op dt x=z3u x.frm x.dst):=hd_ (by unfold zeq;rw[if_neg HOP.out,if_neg (fun h=>h.elim (fun h=>HFD.out h.2) (fun h=>HDD.out h.2))])
        clear hf hfd hd hdd;go_wp2_with fail;refine HCF.out.mono ?_;rintro e w2 ⟨rfl,hb2⟩;have HB2:=hd_ (HB1.out.trans (hb2.mono HB1.out.size));have HX2:=hd_ (HX1.out.below hb2 HX1.out.lt);clear hb2 z0 z1 z2 z3 z4;obtain⟨z0,z1,z2,z3,z4⟩:=z3w (x:=x) HX2.out;have HCD:=hd_ (HD1.out w2 HB2.out);rw[decide_eq_false HDD.out] at HCD;go_wp2_with fail;refine HCD.out.mono ?_;rintro e w3 ⟨rfl,hb3⟩;have HB3:=hd_ (HB2.out.trans (hb3.mono HB2.out.size));have HX3:=hd_ (HX2.out.below hb3 HX2.out.lt);clear hb3 z0 z1 z2 z3 z4;obtain⟨z0,z1,z2,z3,z4⟩:=z3w (x:=x) HX3.out;have HKC:=hd_ (z43 x w3);go_wp2_with fail;refine HKC.out.mono ?_;rintro e w4 ⟨rfl,hb4⟩;have HB4:=hd_ (HB3.out.trans (hb4.mono HB3.out.size));have HX4:=hd_ (HX3.out.below hb4 HX3.out.lt);clear hb4 z0 z1 z2 z3 z4;obtain⟨z0,z1,z2,z3,z4⟩:=z3w (x:=x) HX4.out;obtain⟨⟨v0,-,-,-,-⟩,fz⟩:=HCELL.out w4 HB4.out;have HN:=hd_ (HK.out.next HB4.out HPX.out HTX.out (by rw[List.length_take];omega) HKD.out h1 h2 hB (Nat.le_trans hBw HK.out.low.size))
        go_wp2_with fail;go_roundw
        case rel=>exact⟨k+1,by omega,by go_num,HN⟩
        case measure=>simp [intOf];omega
  ·have hke:k=ps.length:=by omega
   have HO0:Hid (zj7 wr B (.slice Ap ps.length c) (ps.map (zer op dt))):=hd_ (by
    have:=HK.out.own;rw[hke,List.take_length,List.drop_length,List.append_nil] at this;exact this)
   have HL:=hd_ HK.out.low;have HC:=hd_ (HBK.out wr HL.out HO0.out);have HBW:=hd_ (Nat.le_trans hBw HK.out.low.size);clear hke HK;go_wp2_with fail;refine HC.out.mono ?_;rintro e w1 ⟨rfl,ho,hb⟩;have HO1:=hd_ ho;have HL1:=hd_ (HL.out.trans hb);have HS1:=hd_ (Nat.le_trans HBW.out hb.size);have HC2:=hd_ (HRS.out w1 HL1.out ho);clear ho hb;go_wp2_with fail;refine HC2.out.mono ?_;rintro e w2 ⟨u,rfl,hu,hb⟩;have HL2:=hd_ (HL1.out.trans (hb.mono HS1.out));have HO2:=hd_ (show zj7 w2 B _ P1 from z0n HO1.out hb);obtain⟨Au,cu,rfl,-⟩:=id hu;clear hu hb;by_cases hr:1024<RL.length
   ·have HF:=hd_ (HR1.out hr w2 HL2.out);go_wp2_with fail;exact HF.out
   ·have HF:=hd_ (HR2.out hr w2 HL2.out HO2.out);go_wp2_with fail;exact HF.out
section
variable {u0 u1 u2 u3 u4 u5 u6 u7 u8 u9 gA gC gD gE gF gG gH gI gJ gK gL gM gN gO gP gQ gR gT gV gW gX gY gZ i6 i7 i8 ia ib ic ie ig ii ij ik il im io ip iq ir iu iv iw ix iy iz iA iB iC iD iE iF iG iH iI iJ iK iL iM iN iO iP iQ iR iS iT iU iV iW iX iY iZ j0 j1 j2 j5 j6 j7 j8 j9 jb jd jf jg jh ji jj jk jl jm bE bF bG bH bI bJ bK bL bM bN bO bP bQ bT bU bV bW bX bY bZ cj ck cn cx cy cz cA : Value}
theorem zk9 {P:Program}{W:World}{ops:Array Oper}{o:Oper}{a:Act}{K:Act→World→Prop}{Q:Exit→Act→World→Prop}{E:Prop}(hgd:o.guard=none){s x:Operand}{t:TypeId}
  (ho:o.op=.call { callee:=.builtin .append,args:=#[s,x],argTypes:=#[t,t] })
  {e:TypeId} {size bytes base:Nat} (he:z0e P t e size bytes) {v:Value} {n:Nat} {xs:List Value} (hown:zjd W base e size v n xs) (hs:a.eval s=v)
  {ad:Addr} {m c:Nat} {news:List Value} (hx:a.eval x=.slice (some ad) m c) (hl:news.length=m * size) (hnews:∀ j u,news[j]? = some u→W.cell? (ad.add j)=some u) (h1:∀ u∈news,u.oneCell'=true) (hm:0<m) (hbytes:(n+m) * bytes≤140737488355328) (h63:n+m≤maxLen) (hbase:base≤W.heap.size)
  (h:∀ A' c' w',zjd w' base e size (.slice A' (n+m) c') (n+m) (xs++news)→W.grownBy w' v.ownBlock →
   ((Value.slice A' (n+m) c').ownBlock=v.ownBlock∨(Value.slice A' (n+m) c').ownBlock=some W.heap.size)→K (a.put o.dst (.slice A' (n+m) c')) w'):
  if Region.wanted o (yielded ops a.tmps)=true then Oper.wp P o a W K Q else E:=by
 have hw:Region.wanted o (yielded ops a.tmps)=true:=by simp [Region.wanted,hgd]
 rw[if_pos hw];obtain⟨A',c',w',hrun,h2,h3,h4⟩:=zjf (ty:=o.type) he hown hl hnews h1 hm hbytes h63 hbase;unfold Oper.wp execOp;simp only[ho,resolve,invoke,builtin,Sem.run_bind,Sem.run_pure,Result.andThen_ok,List.map_toArray,List.map_cons,List.map_nil,hs,hx]
 rw[hrun];exact h A' c' w' h2 h3 h4
theorem zka (W:World)(cs:List Value)(t:TypeId):∀ j u,cs[j]? = some u→(W.alloc (.cells cs.toArray t)).cell? ((⟨W.heap.size,0,none⟩:Addr).add j)=some u:=by
 intro j u hu;rw[Addr.add_lit,World.cell?_alloc_mark];simpa using hu
def zkb (V w':World)(v:Value):Prop:=∃ Y,zB V Y∧Y.grownBy w' v.ownBlock
theorem zkb.block {V w':World}{v:Value}(h:zkb V w' v){k:Nat}(hk:k<V.heap.size)(hne:v.ownBlock≠some k):w'.heap[k]? = V.heap[k]?:=by
 obtain⟨Y,h1,h2⟩:=h;exact (h2.block k (Nat.lt_of_lt_of_le hk h1.size) (fun e=>hne e.symm)).trans (h1.block k hk)
theorem zkb.size {V w':World}{v:Value}(h:zkb V w' v):V.heap.size≤w'.heap.size:=by
 obtain⟨Y,h1,h2⟩:=h;exact Nat.le_trans h1.size h2.size
theorem zkb.low {V w' X:World}{v:Value}{B:Nat}(h:zkb V w' v)(hX:Below B X V)(hB:B≤V.heap.size)(hv:∀ k,v.ownBlock=some k→B≤k):Below B X w':=by
 obtain⟨Y,h1,h2⟩:=h;exact (hX.trans (h1.mono hB)).grown h2 (Nat.le_trans hB h1.size) hv
theorem bkR26 (ops:Array Oper)(hops:Tryz.f47.body.bind (z0x 26)=some ops)(Q:Exit→Act→World→Prop)(V1:World)(g n c i nq cq B2:Nat)(Aq:Option Addr)(xs:List Value)(p f:ByteArray)
  (hq:zjd V1 B2 96 3 (.slice Aq nq cq) nq xs) (hp1:V1.cell? ⟨g,i * 5+1,none⟩=some (.string p)) (hp3:V1.cell? ⟨g,i * 5+3,none⟩=some (.string f)) (hi:i<n) (hB2:B2≤V1.heap.size) (hg:g<B2) (hnq:nq≤2000000)
  (hQ:∀(ar au aw ax ay az aA aB aC aD aE aF aG aH:Value) (A':Option Addr) (c':Nat) (w':World),Hid (zjd w' B2 96 3 (.slice A' (nq+1) c') (nq+1) (xs++[.string p,.int .i64 0,.string f])∧zkb V1 w' (.slice Aq nq cq)∧((Value.slice A' (nq+1) c').ownBlock=(Value.slice Aq nq cq).ownBlock∨∃ x,(Value.slice A' (nq+1) c').ownBlock=some x∧V1.heap.size≤x))→Q .normal ⟨#[u0,.slice (some ⟨g,0,none⟩) n c,u2,u3,u4,u5,u6,u7,.slice A' (nq+1) c',u9,gA,gC,gD,gE,gF,.int .i64 i,gH,gI,gJ,gK,gL,gM,gN,gO,gP,gQ,gR,gT,gV,gW,gX,gY,gZ,i6,i7,i8,ia,ib,ic,ie,ig,ii,ij,ik,il,im,io,ip,iq,ir,iu,iv,iw,ix,iy,iz,iA,iB,iC,iD,iE,iF,iG,iH,iI,iJ,iK,iL,iM,iN,iO,iP,iQ,iR,iS,iT,iU,iV,iW,iX,iY,iZ,j0,j1,j2,j5,j6,j7,j8,j9,jb,jd,jf,jg,jh,ji,jj,jk,jl,jm,bE,bF,bG,bH,bI,bJ,bK,bL,bM,bN,bO,bP,ar,au,aw,ax,ay,az,aA,aB,aC,aD,aE,aF,aG,aH,cA],[]⟩ w'):
  (Code.region 26 ops true).wp prog Q ⟨#[u0,.slice (some ⟨g,0,none⟩) n c,u2,u3,u4,u5,u6,u7,.slice Aq nq cq,u9,gA,gC,gD,gE,gF,.int .i64 i,gH,gI,gJ,gK,gL,gM,gN,gO,gP,gQ,gR,gT,gV,gW,gX,gY,gZ,i6,i7,i8,ia,ib,ic,ie,ig,ii,ij,ik,il,im,io,ip,iq,ir,iu,iv,iw,ix,iy,iz,iA,iB,iC,iD,iE,iF,iG,iH,iI,iJ,iK,iL,iM,iN,iO,iP,iQ,iR,iS,iT,iU,iV,iW,iX,iY,iZ,j0,j1,j2,j5,j6,j7,j8,j9,jb,jd,jf,jg,jh,ji,jj,jk,jl,jm,bE,bF,bG,bH,bI,bJ,bK,bL,bM,bN,bO,bP,bQ,bT,bU,bV,bW,bX,bY,bZ,cj,ck,cn,cx,cy,cz,cA],[]⟩ V1:=by
 simp only[Tryz.f47,Option.bind_some,z0x] at hops
 simp at hops
 subst hops;have HQ:=hd_ hQ;have HQU:=hd_ hq;have hda:zB V1 (V1.alloc (.cells #[.string p,.int .i64 0,.string f] 96)).drew:=(z0u (Below.refl _ _) _).drew;have HDA:=hd_ hda;have HSZ:Hid (B2≤(V1.alloc (.cells #[.string p,.int .i64 0,.string f] 96)).drew.heap.size):=hd_ (Nat.le_trans hB2 hda.size);have HN:Hid (∀ j u,[Value.string p,Value.int .i64 0,Value.string f][j]? = some u→(V1.alloc (.cells #[.string p,.int .i64 0,.string f] 96)).drew.cell? ((⟨V1.heap.size,0,none⟩:Addr).add j)=some u):=hd_ (zka V1 _ _);clear hQ hq hda hB2 hg;refine wp_region_noPanic ?_;go_region_law (first
  | (refine zk9 (base:=B2) rfl rfl z5a (HQU.out.below HDA.out) (by simp [Act.eval,Act.put];done) (ad:=⟨V1.heap.size,0,none⟩) (m:=1) (c:=1) (by simp [Act.eval,Act.put];done) (news:=[.string p,.int .i64 0,.string f]) rfl HN.out (by simp [Value.oneCell']) (by omega) (by omega) (by unfold maxLen;omega) HSZ.out ?_;intro A6 c6 w6 hO6 hG6 hw6))
 all_goals exact NoPanic.normal (HQ.out _ _ _ _ _ _ _ _ _ _ _ _ _ _ _ _ _ (hd_ ⟨hO6,⟨_,HDA.out,hG6⟩,hw6.imp id (fun e=>⟨_,e,HDA.out.size⟩)⟩))
end
theorem zpj {s:ByteArray}{ps:List (List UInt8)}(h:z2v s.data.toList 2=some ps):z2x s=true:=by unfold z2x z2w;rw[h];rfl
theorem zpk {w:World}{a:Addr}{x y:Hav}(h:x=y)(hA:z4i w a x):z4i w a y:=by subst h;exact hA
theorem zpl (s:ByteArray)(w:World)(he:Env w)(hs:s.size≤2000000):
  Calls prog 151 #[.string s] w fun e w'=>e=.returned (.bool (z3v s))∧zB w w':=by
 cases h:z2v s.data.toList 2 with
 | none =>
  have HP:Hid (z3v s=false):=hd_ (by unfold z3v;rw[zh7 h,Bool.and_false])
  have H:=hd_ (z99 s w he hs h);clear he hs h;go_enter func151,ntmps151;go_wp2_with fail;refine H.out.mono ?_;rintro e w' ⟨rfl,hb⟩;go_wp2_with fail;go_ret;exact⟨z13 HP.out.symm,hb⟩
 | some ps =>
  have HP:Hid (z3v s=decide (s.size≤200)):=hd_ (by unfold z3v;rw[zpj h,Bool.and_true])
  have H:=hd_ (z98 s ps w he hs h);have hA:zB w (w.alloc (.cells (z6x ps).toArray 9)):=(Below.refl _ _).alloc (Nat.le_refl _) _;have HA:=hd_ hA;have q:decide ((s.size:Int)≤200)=decide (s.size≤200):=decide_eq_decide.2 (by omega)
  clear he hs h hA;generalize w.alloc (.cells (z6x ps).toArray 9)=W at H HA ⊢;go_enter func151,ntmps151;go_wp2_with fail;refine H.out.mono ?_;rintro e w' ⟨rfl,rfl⟩;go_wp2_with fail;go_ret;exact⟨z13 HP.out.symm,HA.out⟩
theorem zpm (h:Hav)(w:World)(he:Env w)(h1:h.path.size≤2000000)(h2:h.loc.size≤2000000):
  Calls prog 92 #[.agg #[.string h.path,.int .i64 h.num,.string h.loc]] w fun e w'=>e=.returned (.bool h.okB)∧zB w w':=by
 have hA:zB w (w.alloc (.cells #[.string h.path,.int .i64 h.num,.string h.loc] 96)):=(Below.refl _ _).alloc (Nat.le_refl _) _;have HB:=hd_ (z0l w [.string h.path,.int .i64 h.num,.string h.loc] 96);have HPC:=hd_ (fun X (hX:zB w X)=>zpl h.path X (he.below hX) h1);have HLC:=hd_ (fun X (hX:zB w X)=>zpl h.loc X (he.below hX) h2);have HOK:Hid (h.okB=(z3v h.path && z3v h.loc && decide (1≤h.num))):=hd_ rfl;have HA:=hd_ hA;have HP1:=hd_ (HPC.out _ hA);obtain⟨z0,z1,z2⟩:=z3x (x:=h) HB.out;generalize z3v h.path=b1 at HP1 HPC HOK;generalize z3v h.loc=b2 at HLC HOK;clear he h1 h2 hA HPC;go_enter func92,ntmps92;go_wp2_with fail;refine HP1.out.mono ?_;rintro e w1 ⟨rfl,hb1⟩;dsimp only;have HB1:=hd_ (z0r HA.out hb1);have HX1:=hd_ (HB.out.below hb1 HB.out.lt);clear hb1 z0 z1 z2 HB;obtain⟨z0,z1,z2⟩:=z3x (x:=h) HX1.out;cases b1 with
 | false =>
  go_wp2_with fail;go_ret;exact⟨z13 (by rw[HOK.out];rfl),HB1.out⟩
 | true =>
  have HP2:=hd_ (HLC.out _ HB1.out);go_wp2_with fail;refine HP2.out.mono ?_;rintro e w2 ⟨rfl,hb2⟩;dsimp only;have HB2:=hd_ (z0r HB1.out hb2);have HX2:=hd_ (HX1.out.below hb2 HX1.out.lt);clear hb2 z0 z1 z2 HX1;obtain⟨z0,z1,z2⟩:=z3x (x:=h) HX2.out;cases b2 with
  | false =>
   go_wp2_with fail;go_ret;exact⟨z13 (by rw[HOK.out];rfl),HB2.out⟩
  | true =>
   go_wp2_with fail;go_ret;exact⟨z13 (by rw[HOK.out];rfl),HB2.out⟩
theorem zpn (l:List ByteArray)(v:Value)(s:ByteArray)(w:World)(hL:Strs w v l)(hl:l.length≤1000000):
  Calls prog 96 #[v,.string s] w fun e w'=>e=.returned (.bool (decide (s∈l)))∧zB w w':=by
 obtain⟨A,c,rfl,-⟩:=id hL;have HL:=hd_ hL;clear hL;go_enter func96,ntmps96;go_wp2_with fail;go_loopw [5] (fun i wr=>∃ k:Nat,i=.int .i64 k∧k≤l.length∧Hid ((∀ j (hj:j<l.length),j<k→l[j]≠s)∧zB w wr)) (fun i _=>l.length - (intOf i).toNat)
 case atStart=>exact⟨0,rfl,Nat.zero_le _,hd_ ⟨fun j _ h=>by omega,Below.refl _ _⟩⟩
 case round =>
  obtain⟨k,rfl,hk,HI⟩:=hrel;by_cases hlt:k<l.length
  ·obtain⟨ad,rfl,hab,s0⟩:=Strs.at_ (HL.out.below HI.out.2) hlt;have HY:Hid (l[k]=s→s∈l):=hd_ fun e=>by rw[← e];exact List.getElem_mem hlt
   have HN:Hid (l[k]≠s→∀ j (hj:j<l.length),j<k+1→l[j]≠s):=hd_ fun h j hj hjk=>by
    by_cases e:j=k
    ·subst e;exact h
    ·exact HI.out.1 j hj (by omega)
   generalize l[k]=q at s0 HY HN;have HB:=hd_ HI.out.2;have HLT:=hd_ hlt;by_cases h1:q=s
   ·have q1:(q.toList == s.toList)=true:=by rw[z42,decide_eq_true h1]
    have HR:=hd_ (HY.out h1);clear h1;go_wp2_with fail;go_ret;exact⟨z13 (decide_eq_true HR.out).symm,HB.out⟩
   ·have q1:(q.toList == s.toList)=false:=by rw[z42,decide_eq_false h1]
    have HR:=hd_ (HN.out h1);clear h1;go_wp2_with fail;go_roundw
    case rel=>exact⟨k+1,by go_num,by have:=HLT.out;omega,hd_ ⟨HR.out,HB.out⟩⟩
    case measure=>have:=HLT.out;simp [intOf];omega
  ·have hke:k=l.length:=by omega
   have HR:Hid (s∉l):=hd_ fun h=>by
    obtain⟨j,hj,e⟩:=List.getElem_of_mem h;exact HI.out.1 j hj (by omega) e
   have HB:=hd_ HI.out.2;subst hke;clear HI;go_wp2_with fail;go_ret;exact⟨z13 (decide_eq_false HR.out).symm,HB.out⟩
theorem zpo (f d:ByteArray)(w:World):Calls prog 95 #[.string f,.string d] w fun e w'=>e=.returned (.int .i64 (z3u f d))∧w=w':=by
 by_cases h1:f=z2q
 ·have HK:Hid (z3u f d=1):=hd_ (if_pos h1);obtain⟨s1,s2⟩:=z40 h1;clear h1;go_enter func95,ntmps95;go_wp2_with fail;go_ret;exact⟨by rw[HK.out];rfl,rfl⟩
 ·obtain⟨s1,s2⟩:=z41 h1;by_cases h2:d=z2q
  ·have HK:Hid (z3u f d=4):=hd_ (by unfold z3u;rw[if_neg h1,if_pos h2])
   obtain⟨t1,t2⟩:=z40 h2;clear h1 h2;go_enter func95,ntmps95;go_wp2_with fail;go_ret;exact⟨by rw[HK.out];rfl,rfl⟩
  ·obtain⟨t1,t2⟩:=z41 h2;have q:=z42 f d;by_cases h3:f=d
   ·have HK:Hid (z3u f d=2):=hd_ (by unfold z3u;rw[if_neg h1,if_neg h2,if_pos h3])
    rw[decide_eq_true h3] at q;clear h1 h2 h3;go_enter func95,ntmps95;go_wp2_with fail;go_ret;exact⟨by rw[HK.out];rfl,rfl⟩
   ·have HK:Hid (z3u f d=3):=hd_ (by unfold z3u;rw[if_neg h1,if_neg h2,if_neg h3])
    rw[decide_eq_false h3] at q;clear h1 h2 h3;go_enter func95,ntmps95;go_wp2_with fail;go_ret;exact⟨by rw[HK.out];rfl,rfl⟩
