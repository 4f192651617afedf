/- A part. -/
import Derived.Test.YtlnjaagijaadmaaGreatDoorMvw34
import Derived.Test.YtlnjaagijaadmaaGreatDoorMvw28
import Derived.Test.YtlnjaagijaadmaaGreatDoorMvw32
import Derived.Test.YtlnjaagijaadmaaGreatDoorMxGrA
set_option linter.unusedVariables false
set_option linter.unusedSimpArgs false
set_option maxHeartbeats 8000000
set_option maxRecDepth 100000
namespace Go.Proofs.YtlnjaagijaadmaaGreatDoor
open Go.RowKit
open Go.Sort (grow)
structure KpS (W wr:zW)(bv:zV)(br:Bool)(hv:zV)(ks:List PatM):Prop where
 low:zB W wr
 box:Blk wr W.heap.size 66 [bv,.bool br,hv]
 own:wr.ownsRow (W.heap.size+1) 56 2 hv ks.length (ks.flatMap PatM.cells)
theorem KpS.ku {W wr wx:zW}{bv:zV}{br:Bool}{hv:zV}{ks:List PatM}(h:KpS W wr bv br hv ks)(hb:zB wr wx):KpS W wx bv br hv ks:=⟨z0r h.low hb,h.box.kw hb h.box.lt,z0n h.own hb⟩
theorem KpS.push {W wr w2:zW}{bv:zV}{br:Bool}{hv:zV}{ks:List PatM}{q:PatM}{A':zP}{c':Nat}(h:KpS W wr bv br hv ks)
  (hown:w2.ownsRow (W.heap.size+1) 56 2 (zL A' (ks.length+1) c') (ks.length+1) (ks.flatMap PatM.cells++q.cells)) (hgr:wr.grownBy w2 hv.ownBlock)
  (hob:(zL A' (ks.length+1) c').ownBlock=hv.ownBlock\/(zL A' (ks.length+1) c').ownBlock=some wr.heap.size):
  KpS W (w2.setCell ⟨W.heap.size,2,none⟩ (zL A' (ks.length+1) c')) bv br (zL A' (ks.length+1) c') (ks++[q]):=by
 have hl:=h.box.lt;have hb1:∀ k,hv.ownBlock=some k->W.heap.size<k:=fun k e=>by have:=(h.own.lt k e).1;omega
 have hne:(zL A' (ks.length+1) c').ownBlock≠some W.heap.size:=by
  rcases hob with e | e
  ·rw[e];exact fun e=>by have:=hb1 _ e;omega
  ·rw[e];intro e2;injection e2 with e2;omega
 refine⟨(h.low.grown hgr h.low.size (fun k e=>by have:=hb1 k e;omega)).setCell (p:=⟨W.heap.size,2,none⟩) (Zd _) _,(Blk.grown h.box hgr (fun e=>by have:=hb1 _ e.symm;omega)).set_ 2 _,?_⟩
 rw[Zc,ZI,List.flatMap_singleton];exact z5c hown (p:=⟨W.heap.size,2,none⟩) hne _
def zsc (L:List Pat)(i j:Nat)(hi:i<L.length)(hj:j<L.length):Prop:=i≠j/\Wi L[i] L[j]/\(j<i\/L[i]≠L[j])
def zsd (w:zW)(bv:zV)(br:Bool)(L:List Pat)(e:Ending)(w':zW):Prop:=zB w w'/\∃(A:zP) (c:Nat) (K:List PatM),e=.returned (.agg #[bv,.bool br,zL A K.length c])/\HolesIn w' (zL A K.length c) K/\zls w.heap.size (zL A K.length c) K/\K.length<=L.length/\SimP L (K.map (·.1))
theorem smT17W (T:Code)(hT:Tryz.f43.body.bind (tailAt 17)=some T)(w W:zW)(A Av:zP)(n a g2 g4 cv:Nat)(br:Bool)(gs:List PatM)(hP:zch W g2 (zL A n a) br)(hR:Blk W g4 66 [zL none 0 0,.bool false,zL none 0 0])(hb:zB w W)(h4:w.heap.size<=g4)
  (hH:HolesIn W (zL Av gs.length cv) gs) (hfr:∀ q∈gs,∀ x,q.v.ownBlock=some x->g4<x) (hpe:∀ q∈gs,z8w q.1=0) (hn:gs.length<=1000)
  (u0 u1 u3 u6 u7 u8 u9 gF gG gH gI gJ gK gL gM gN gO gP gQ gR gT gV gW gX gY gZ i6 i7 i8 ia ib ic ie ig ii ij ik il im io ip iq ir iu iv iw iy iz iA iB iC iD iE iF iG iH iI iJ iK iL iM iN iO iP iQ iR iS iT iU iV iW iX iY iZ j0 j1 j2 j9 jb jd je jf jg jh ji jj jk jl jm jn jo jp jq jr js jt ju bB bD bE bF bG bH bI bJ bK bL bM bN bO bP bQ bT bU bV bW bX bY bZ:zV):
  T.wp Tryz.prog (bodyPost Tryz.prog Tryz.f43 (zsd w (zL A n a) br (gs.map (·.1)))) ⟨#[u0,u1,.pointer (some ⟨g2,0,none⟩),u3,.pointer (some ⟨g4,0,none⟩),zL Av gs.length cv,u6,u7,u8,u9,gF,gG,gH,gI,gJ,gK,gL,gM,gN,gO,gP,gQ,gR,gT,gV,gW,gX,gY,gZ,i6,i7,i8,ia,ib,ic,ie,ig,ii,ij,ik,il,im,io,ip,iq,ir,iu,iv,iw,iy,iz,iA,iB,iC,iD,iE,iF,iG,iH,iI,iJ,iK,iL,iM,iN,iO,iP,iQ,iR,iS,iT,iU,iV,iW,iX,iY,iZ,j0,j1,j2,j9,jb,jd,je,jf,jg,jh,ji,jj,jk,jl,jm,jn,jo,jp,jq,jr,js,jt,ju,bB,bD,bE,bF,bG,bH,bI,bJ,bK,bL,bM,bN,bO,bP,bQ,bT,bU,bV,bW,bX,bY,bZ],[]⟩ W:=by
 simp only[Tryz.f43,Zp,tailAt,hasReg] at hT
 simp at hT
 subst hT;have HP:=hd_ hP;have HR:=hd_ hR;have HB:=hd_ hb;have HH:=hd_ hH;have HFR:=hd_ hfr;have HPE:=hd_ hpe;have x0:=hP.c0;have x1:=hP.c1;have hX:zB W (W.alloc (zC #[zL A n a,.bool br,zL none 0 0] 66)):=zR;have HK0:Hid (KpS W (W.alloc (zC #[zL A n a,.bool br,zL none 0 0] 66)) (zL A n a) br (zL none 0 0) []):=hd_ ⟨hX,z0l W _ _,Zv _ _ _ _⟩;have hg4:=hR.lt;clear hP hR hb hH hfr hpe hX;go_wp2_with fail;clear x0 x1;generalize W.alloc (zC #[zL A n a,.bool br,zL none 0 0] 66)=W2 at HK0 |-;go_loopw [81] (fun i wr=>∃(k:Nat) (hv:zV) (ks:List PatM),i=zI k/\k<=gs.length/\ks.length<=k/\Hid (KpS W wr (zL A n a) br hv ks/\(∀ q∈ks,q∈gs)/\∀ j (hj:j<(gs.map (·.1)).length),j<k->¬ Out (gs.map (·.1)) j hj->(gs.map (·.1))[j]∈ks.map (·.1))) (fun i _=>gs.length - (intOf i).toNat)
 exact⟨0,_,[],rfl,Zg _,Zd _,hd_ ⟨HK0,fun q hq=>(by cases hq),fun j _ h=>by omega⟩⟩
 obtain⟨k,hv,ks,rfl,hk,hkk,HI⟩:=hrel;by_cases hlt:k<gs.length
 ·have HHX:=hd_ (HH.kw HI.1.low);obtain⟨ad,rfl,hab,s0,s1⟩:=HHX.out.at_ hlt;have HPK:=hd_ (HH.2 gs[k] (Za hlt));have HPEK:=hd_ (HPE gs[k] (Za hlt));have HMK:=hd_ (Za hlt);have hlm:k<(gs.map (·.1)).length:=by rw[Zk];exact hlt
  have HGK:Hid ((gs.map (·.1))[k]=gs[k].1):=hd_ (by rw[List.getElem_map])
  have HJN:Hid (Out (gs.map (·.1)) k hlm->∀ j (hj:j<(gs.map (·.1)).length),j<k+1->¬ Out (gs.map (·.1)) j hj->(gs.map (·.1))[j]∈ks.map (·.1)):=hd_ (fun h j hj hjk hno=>by
   by_cases e:j=k
   ·subst e;exact absurd h hno
   ·exact HI.2.2 j hj (by omega) hno)
  have HJY:Hid (∀ j (hj:j<(gs.map (·.1)).length),j<k+1->¬ Out (gs.map (·.1)) j hj->(gs.map (·.1))[j]∈(ks++[gs[k]]).map (·.1)):=hd_ (fun j hj hjk hno=>by
   rw[Zs];by_cases e:j=k
   ·subst e;exact List.mem_append_right _ (by rw[HGK.out];exact Zm.2 rfl)
   ·exact List.mem_append_left _ (HI.2.2 j hj (by omega) hno))
  have HLT:=hd_ hlt;generalize hgk:gs[k]=q at s0 s1 HPK HPEK HMK HGK HJY;clear hgk;obtain⟨q,Aq,cq⟩:=q;change wr.cell? _=some (.slice Aq q.kp.length cq) at s0;change wr.cell? _=some (.bool q.kr) at s1;have HGK:Hid ((gs.map (·.1))[k]=q):=HGK;have HPEK:Hid (z8w q=0):=HPEK;have HPK:Hid (zbx W (zL Aq q.kp.length cq) q):=HPK;have hX:zB wr (wr.alloc (zC #[zL Aq q.kp.length cq,.bool q.kr] 56)):=zR;have HK1:=hd_ (HI.1.ku hX);have HX1:Hid (zch (wr.alloc (zC #[zL Aq q.kp.length cq,.bool q.kr] 56)) wr.heap.size (zL Aq q.kp.length cq) q.kr):=hd_ (z0l wr [zL Aq q.kp.length cq,.bool q.kr] 56);have HKS:=hd_ HI.2.1;have hWr:=HI.out.1.low.size;clear hab hX HI;go_upto_region 21 with fail;clear s0 s1;generalize wr.alloc (zC #[zL Aq q.kp.length cq,.bool q.kr] 56)=W5 at HK1 HX1 |-;generalize wr.heap.size=g14 at HX1 hWr |-;go_wp2_with fail;go_loopw [15,88] (fun z i wr=>∃(b:Bool) (j:Nat),z=.bool b/\i=zI j/\j<=gs.length/\Hid (zB W5 wr/\(b=false->Out (gs.map (·.1)) k hlm)/\(b=true->∀ j' (hj:j'<(gs.map (·.1)).length),j'<j->¬ zsc (gs.map (·.1)) k j' hlm hj))) (fun _ i _=>gs.length - (intOf i).toNat)
  exact⟨true,0,rfl,rfl,Zg _,hd_ ⟨Zb _ _,fun h=>(by cases h),fun _ j _ h=>by omega⟩⟩
  obtain⟨b,j,rfl,rfl,hj,HJ⟩:=hrel;by_cases hlj:j<gs.length
  ·have hB5:=z0r HK1.out.low HJ.out.1;obtain⟨ad2,had,hab,s0,s1⟩:=(HH.out.kw hB5).at_ hlj;injection had with had
   subst had;have HPJ:=hd_ (HH.2 gs[j] (Za hlj));have HPEJ:=hd_ (HPE gs[j] (Za hlj));have hljm:j<(gs.map (·.1)).length:=by rw[Zk];exact hlj
   have HGJ:Hid ((gs.map (·.1))[j]=gs[j].1):=hd_ (by rw[List.getElem_map])
   have HOY:Hid (zsc (gs.map (·.1)) k j hlm hljm->Out (gs.map (·.1)) k hlm):=hd_ (fun h=>⟨j,hljm,h.1,h.2.1,h.2.2⟩);have HON:Hid (¬ zsc (gs.map (·.1)) k j hlm hljm->b=true->∀ j' (hj:j'<(gs.map (·.1)).length),j'<j+1->¬ zsc (gs.map (·.1)) k j' hlm hj):=hd_ (fun h hb j' hj' hjj=>by
    by_cases e:j'=j
    ·subst e;exact h
    ·exact HJ.2.2 hb j' hj' (by omega))
   have HOB:Hid (zsc (gs.map (·.1)) k j hlm hljm↔(k≠j/\Wi (gs.map (·.1))[k] (gs.map (·.1))[j]/\(j<k\/(gs.map (·.1))[k]≠(gs.map (·.1))[j]))):=hd_ Iff.rfl;rw[HGK.out,HGJ.out] at HOB;generalize gs[j]=t at s0 s1 HPJ HPEJ HOB;obtain⟨t,At,ct⟩:=t;change wr.cell? _=some (.slice At t.kp.length ct) at s0;change wr.cell? _=some (.bool t.kr) at s1;have HPEJ:Hid (z8w t=0):=HPEJ;have HPJ:Hid (zbx W (zL At t.kp.length ct) t):=HPJ;have HOB:Hid (zsc (gs.map (·.1)) k j hlm hljm↔(k≠j/\Wi q t/\(j<k\/q≠t))):=HOB;generalize zsc (gs.map (·.1)) k j hlm hljm=OB at HOY HON HOB;have hX:zB wr (wr.alloc (zC #[zL At t.kp.length ct,.bool t.kr] 56)):=zR;have HX2:Hid (zch (wr.alloc (zC #[zL At t.kp.length ct,.bool t.kr] 56)) wr.heap.size (zL At t.kp.length ct) t.kr):=hd_ (z0l wr [zL At t.kp.length ct,.bool t.kr] 56);have HB6:=hd_ (z0r HJ.1 hX);have HX1b:=hd_ (HX1.low HB6);have HW6:=hd_ (z0r HK1.low HB6);have HOF:=hd_ HJ.2.1;have HLJ:=hd_ hlj;clear hab hX hB5 HJ;go_upto_region 25 with fail;clear s0 s1;generalize wr.alloc (zC #[zL At t.kp.length ct,.bool t.kr] 56)=W6 at HX2 HB6 HX1b HW6 |-;generalize wr.heap.size=g17 at HX2 |-;have x0:=HX1b.out.c0;have x1:=HX1b.out.c1;have y0:=HX2.out.c0;have y1:=HX2.out.c1;have HCW:=hd_ (zs0 q t Aq At cq ct W6 (HPK.kw HW6) (HPJ.kw HW6) HPEK HPEJ);have HCS:=hd_ (fun X (hX:zB W6 X)=>rSameW q t Aq At cq ct X ((HPK.kw HW6).kw hX) ((HPJ.kw HW6).kw hX));by_cases hkj:k=j
   ·have q1:((k:Int) != (j:Int))=false:=by simp;omega
    have HN:=hd_ (HON (fun h=>(HOB.1 h).1 hkj));clear hkj;go_wp2_with fail;go_roundw
    exact⟨b,j+1,rfl,by go_num,by omega,hd_ ⟨HB6,HOF,HN⟩⟩
    simp [intOf];omega
   have q1:((k:Int) != (j:Int))=true:=by simp;omega
   have HKJ:=hd_ hkj;clear hkj;go_wp2_with fail;refine HCW.mono ?_;rintro e w7 ⟨r,rfl,hr,hb7⟩;dsimp only;have HRW:=hd_ hr;have HB7:=hd_ (z0r HB6 hb7);have HX7:=hd_ (Zi (HX1b.out.low hb7) (HX2.out.low hb7));have HC7:=hd_ (HCS w7 hb7);clear x0 x1 y0 y1 hb7 hr;cases r with
   | false =>
    have HN:=hd_ (HON (fun h=>by have:=HRW.out.2 (HOB.out.1 h).2.1;cases this))
    go_wp2_with fail;go_roundw
    exact⟨b,j+1,rfl,by go_num,by omega,hd_ ⟨HB7,HOF,HN⟩⟩
    simp [intOf];omega
   | true =>
    have HWI:=hd_ (HRW.1 rfl);by_cases hjk:j<k
    ·have q2:decide ((j:Int)<(k:Int))=true:=by simp;omega
     have HO:=hd_ (HOY (HOB.2 ⟨HKJ,HWI,.inl hjk⟩));go_wp2_with fail;go_roundw
     exact⟨false,j+1,rfl,by go_num,by omega,hd_ ⟨HB7,fun _=>HO,fun h=>(by cases h)⟩⟩
     simp [intOf];omega
    ·have q2:decide ((j:Int)<(k:Int))=false:=by simp;omega
     have x0:=HX7.out.1.c0;have x1:=HX7.out.1.c1;have y0:=HX7.out.2.c0;have y1:=HX7.out.2.c1;go_wp2_with fail;refine HC7.mono ?_;rintro e w8 ⟨s,rfl,hs,hb8⟩;dsimp only;have HB8:=hd_ (z0r HB7 hb8);have HSS:=hd_ hs;clear x0 x1 y0 y1 hb8 hs;cases s with
     | true =>
      have HN:=hd_ (HON (fun h=>by
       rcases (HOB.out.1 h).2.2 with h1 | h1
       ·exact hjk h1
       ·exact h1 (HSS.1 rfl)))
      go_wp2_with fail;go_roundw
      exact⟨b,j+1,rfl,by go_num,by omega,hd_ ⟨HB8,HOF,HN⟩⟩
      simp [intOf];omega
     | false =>
      have HO:=hd_ (HOY (HOB.2 ⟨HKJ,HWI,.inr (fun h=>by have:=HSS.out.2 h;cases this)⟩))
      go_wp2_with fail;go_roundw
      exact⟨false,j+1,rfl,by go_num,by omega,hd_ ⟨HB8,fun _=>HO,fun h=>(by cases h)⟩⟩
      simp [intOf];omega
  ·have hje:j=gs.length:=by omega
   subst hje;have HK2:=hd_ (HK1.ku HJ.1);have hge:¬((gs.length:Int)<(gs.length:Int)):=by omega
   cases b with
   | false =>
    have HN:=hd_ (HJN (HJ.2.1 rfl));clear HJ;go_wp2_with fail;go_roundw
    exact⟨k+1,hv,ks,by go_num,by omega,by omega,hd_ ⟨HK2,HKS,HN⟩⟩
    simp [intOf];omega
   | true =>
    have HX3:=hd_ (HX1.low HJ.1);have x0:=HX3.out.c0;have x1:=HX3.out.c1;obtain⟨Ah,ch,rfl⟩:=z0o HK2.out.own;have z2:wr.cell? ⟨W.heap.size,2,none⟩=some (.slice Ah ks.length ch):=HK2.box.cell 2;have hX:zB wr (wr.alloc (zC #[zL Aq q.kp.length cq,.bool q.kr] 56)):=zR;have HK3:=hd_ (HK2.ku hX);have hrow:=z0i wr [zL Aq q.kp.length cq,.bool q.kr] 56 2 1 rfl (by decide) _ rfl
    have hsz:W.heap.size+1<=(wr.alloc (zC #[zL Aq q.kp.length cq,.bool q.kr] 56)).heap.size:=by have:=HK2.out.box.lt;simp;omega
    clear hX HJ;go_wp2_with (at_builtin;refine z0j rfl rfl zlm HK3.own rfl hrow rfl (by simp [Value.oneCell']) (by omega) (by unfold maxLen;omega) hsz ?_;intro A9 c9 w9 hown hgr hob;have HP9:=hd_ (HK3.push (q:=(q,Aq,cq)) hown hgr hob);have hbw:=Blk.grown HK3.out.box hgr (fun e=>by have:=(HK3.out.own.lt _ e.symm).1;omega);have hfz:=hbw.frozen 2;have hcl:w9.cell? ⟨W.heap.size,2,none⟩=some (.slice Ah ks.length ch):=hbw.cell 2)
    go_roundw
    exact⟨k+1,_,ks++[(q,Aq,cq)],by go_num,by omega,by simp;omega,hd_ ⟨HP9,fun q' hq'=>(Zy.1 hq').elim (HKS q') (fun h=>by rw[Zm.1 h];exact HMK),HJY⟩⟩
    simp [intOf];omega
 ·have hke:k=gs.length:=by omega
  subst hke;obtain⟨Ak,ck,rfl⟩:=z0o HI.out.1.own;obtain⟨z0,z1,z2⟩:=(⟨HI.out.1.box.cell 0,HI.out.1.box.cell 1,HI.out.1.box.cell 2⟩:wr.cell? ⟨W.heap.size,0,none⟩=some (.slice A n a)/\wr.cell? ⟨W.heap.size,1,none⟩=some (.bool br)/\wr.cell? ⟨W.heap.size,2,none⟩=some (.slice Ak ks.length ck));have HR2:=hd_ (HR.kw HI.1.low HR.lt);obtain⟨u0,u1,u2⟩:=(⟨HR2.out.cell 0,HR2.out.cell 1,HR2.out.cell 2⟩:wr.cell? ⟨g4,0,none⟩=some (.slice none 0 0)/\wr.cell? ⟨g4,1,none⟩=some (.bool false)/\wr.cell? ⟨g4,2,none⟩=some (.slice none 0 0));obtain⟨v0,v1,v2⟩:=(⟨HR2.out.frozen 0,HR2.out.frozen 1,HR2.out.frozen 2⟩:wr.frozen? ⟨g4,0,none⟩=false/\wr.frozen? ⟨g4,1,none⟩=false/\wr.frozen? ⟨g4,2,none⟩=false);have HB2:=hd_ (z0r HB HI.1.low);have HSI:Hid (SimP (gs.map (·.1)) (ks.map (·.1))):=hd_ (by
   have h1:∀ x∈ks.map (·.1),x∈gs.map (·.1):=fun x hx=>by
    obtain⟨y,hy,rfl⟩:=ZD.1 hx;exact ZJ (HI.2.1 y hy)
   exact⟨h1,zs9 h1 (fun i hi ho=>HI.2.2 i hi (by rw[Zk] at hi;exact hi) ho)⟩)
  have HFK:Hid (zls w.heap.size (zL Ak ks.length ck) ks):=hd_ ⟨fun x hx=>by have:=(HI.out.1.own.lt x hx).1;omega,fun q hq x hx=>by have:=HFR.out q (HI.out.2.1 q hq) x hx;omega⟩
  have HHO:Hid (HolesIn (((wr.setCell ⟨g4,0,none⟩ (zL A n a)).setCell ⟨g4,1,none⟩ (.bool br)).setCell ⟨g4,2,none⟩ (zL Ak ks.length ck)) (zL Ak ks.length ck) ks):=hd_ (by
   have hf:zls (g4+1) (zL Ak ks.length ck) ks:=⟨fun x hx=>by have:=(HI.out.1.own.lt x hx).1;omega,fun q hq x hx=>HFR q (HI.2.1 q hq) x hx⟩
   have hh:HolesIn wr (zL Ak ks.length ck) ks:=⟨Row.of_own HI.1.own,fun q hq=>(HH.2 q (HI.2.1 q hq)).kw HI.1.low⟩;exact ((hh.set_far hf (ZT _) _ _).set_far hf (ZT _) _ _).set_far hf (ZT _) _ _)
  have hge:¬((gs.length:Int)<(gs.length:Int)):=by omega
  clear HI;go_wp2_with fail;have hE:=((HR2.out.set_ 0 (zL A n a)).set_ 1 (.bool br)).set_ 2 (zL Ak ks.length ck);have hb:=((HB2.out.setCell (p:=⟨g4,0,none⟩) h4 (zL A n a)).setCell (p:=⟨g4,1,none⟩) h4 (.bool br)).setCell (p:=⟨g4,2,none⟩) h4 (zL Ak ks.length ck);have hHo:=HHO.out;generalize ((wr.setCell ⟨g4,0,none⟩ (zL A n a)).setCell ⟨g4,1,none⟩ (.bool br)).setCell ⟨g4,2,none⟩ (zL Ak ks.length ck)=W3 at hE hb hHo |-;have e0:=hE.cell 0;have e1:=hE.cell 1;have e2:=hE.cell 2;exact bodyPost_ret (v:=.agg #[zL A n a,.bool br,zL Ak ks.length ck]) (by simp [results,Tryz.results43,go_sem,e0,e1,e2]) rfl ⟨hb,Ak,ck,ks,rfl,hHo,HFK,by rw[Zk];exact hkk,HSI⟩
theorem zsd.perm {w w':zW}{bv:zV}{br:Bool}{L M:List Pat}{e:Ending}(h:zsd w bv br L e w')(hp:∀ x,x∈L↔x∈M)(hl:L.length=M.length):zsd w bv br M e w':=by
 obtain⟨h1,A,c,K,h2,h3,hf,hn,h4,h5⟩:=h;exact⟨h1,A,c,K,h2,h3,hf,by rw[<- hl];exact hn,fun k hk=>(hp k).1 (h4 k hk),fun x hx=>h5 x ((hp x).2 hx)⟩
theorem LsS.cellAt {T:TypeId}{W wr:zW}{g n c k:Nat}{L:List PatM}(h:LsS T W wr (zL (some ⟨g,0,none⟩) n c) L)(hn:L.length=n)(hk:k<L.length):wr.cell? ⟨g,k * 2,none⟩=some L[k].v/\wr.cell? ⟨g,k * 2+1,none⟩=some (.bool L[k].1.kr)/\wr.frozen? ⟨g,k * 2,none⟩=false/\wr.frozen? ⟨g,k * 2+1,none⟩=false:=by
 subst hn;obtain⟨a,b⟩:=zse L k hk;obtain⟨c1,c2,-⟩:=zc0 h.own a;obtain⟨d1,d2,-⟩:=zc0 h.own b;exact⟨c1,d1,c2,d2⟩
theorem smT9W (T:Code)(hT:Tryz.f43.body.bind (tailAt 9)=some T)(w W1 W:zW)(A Av:zP)(n a g2 g4 cv:Nat)(br:Bool)(gs:List PatM)(hP:zch W1 g2 (zL A n a) br)(hR:Blk W1 g4 66 [zL none 0 0,.bool false,zL none 0 0])(hb:zB w W1)(h4:w.heap.size<=g4)
  (hI:LsS 56 W1 W (zL Av gs.length cv) gs) (hpe:∀ q∈gs,z8w q.1=0) (hn:gs.length<=1000)
  (u0 u1 u3 u6 u7 u8 u9 gF gG gH gI gJ gK gL gM gN gO gP gQ gR gT gV gW gX gY gZ i6 i7 i8 ia ib ic ie ig ii ij ik il im io ip iq ir iu iv iw iy iz iA iB iC iD iE iF iG iH iI iJ iK iL iM iN iO iP iQ iR iS iT iU iV iW iX iY iZ j0 j1 j2 j9 jb jd je jf jg jh ji jj jk jl jm jn jo jp jq jr js jt ju bB bD bE bF bG bH bI bJ bK bL bM bN bO bP bQ bT bU bV bW bX bY bZ:zV):
  T.wp Tryz.prog (bodyPost Tryz.prog Tryz.f43 (zsd w (zL A n a) br (gs.map (·.1)))) ⟨#[u0,u1,.pointer (some ⟨g2,0,none⟩),u3,.pointer (some ⟨g4,0,none⟩),zL Av gs.length cv,u6,u7,u8,u9,gF,gG,gH,gI,gJ,gK,gL,gM,gN,gO,gP,gQ,gR,gT,gV,gW,gX,gY,gZ,i6,i7,i8,ia,ib,ic,ie,ig,ii,ij,ik,il,im,io,ip,iq,ir,iu,iv,iw,iy,iz,iA,iB,iC,iD,iE,iF,iG,iH,iI,iJ,iK,iL,iM,iN,iO,iP,iQ,iR,iS,iT,iU,iV,iW,iX,iY,iZ,j0,j1,j2,j9,jb,jd,je,jf,jg,jh,ji,jj,jk,jl,jm,jn,jo,jp,jq,jr,js,jt,ju,bB,bD,bE,bF,bG,bH,bI,bJ,bK,bL,bM,bN,bO,bP,bQ,bT,bU,bV,bW,bX,bY,bZ],[]⟩ W:=by
 have HTA:Hid (∀ T,Tryz.f43.body.bind (tailAt 17)=some T->∀(L:List PatM) (X:zW),LsS 56 W1 X (zL Av gs.length cv) L->L.Perm gs->∀(u0 u1 u3 u6 u7 u8 u9 gF gG gH gI gJ gK gL gM gN gO gP gQ gR gT gV gW gX gY gZ i6 i7 i8 ia ib ic ie ig ii ij ik il im io ip iq ir iu iv iw iy iz iA iB iC iD iE iF iG iH iI iJ iK iL iM iN iO iP iQ iR iS iT iU iV iW iX iY iZ j0 j1 j2 j9 jb jd je jf jg jh ji jj jk jl jm jn jo jp jq jr js jt ju bB bD bE bF bG bH bI bJ bK bL bM bN bO bP bQ bT bU bV bW bX bY bZ:zV),T.wp Tryz.prog (bodyPost Tryz.prog Tryz.f43 (zsd w (zL A n a) br (gs.map (·.1)))) ⟨#[u0,u1,.pointer (some ⟨g2,0,none⟩),u3,.pointer (some ⟨g4,0,none⟩),zL Av gs.length cv,u6,u7,u8,u9,gF,gG,gH,gI,gJ,gK,gL,gM,gN,gO,gP,gQ,gR,gT,gV,gW,gX,gY,gZ,i6,i7,i8,ia,ib,ic,ie,ig,ii,ij,ik,il,im,io,ip,iq,ir,iu,iv,iw,iy,iz,iA,iB,iC,iD,iE,iF,iG,iH,iI,iJ,iK,iL,iM,iN,iO,iP,iQ,iR,iS,iT,iU,iV,iW,iX,iY,iZ,j0,j1,j2,j9,jb,jd,je,jf,jg,jh,ji,jj,jk,jl,jm,jn,jo,jp,jq,jr,js,jt,ju,bB,bD,bE,bF,bG,bH,bI,bJ,bK,bL,bM,bN,bO,bP,bQ,bT,bU,bV,bW,bX,bY,bZ],[]⟩ X):=hd_ (by
  intro T hT L X hL hp u0 u1 u3 u6 u7 u8 u9 gF gG gH gI gJ gK gL gM gN gO gP gQ gR gT gV gW gX gY gZ i6 i7 i8 ia ib ic ie ig ii ij ik il im io ip iq ir iu iv iw iy iz iA iB iC iD iE iF iG iH iI iJ iK iL iM iN iO iP iQ iR iS iT iU iV iW iX iY iZ j0 j1 j2 j9 jb jd je jf jg jh ji jj jk jl jm jn jo jp jq jr js jt ju bB bD bE bF bG bH bI bJ bK bL bM bN bO bP bQ bT bU bV bW bX bY bZ;have hlen:L.length=gs.length:=hp.length_eq;have hL2:=hL.holes;have hlt:=hR.lt;have h:=smT17W T hT w X A Av n a g2 g4 cv br L (hP.low hL.low) (hR.kw hL.low hR.lt) (z0r hb hL.low) h4 (by rw[hlen];exact hL2) (fun q hq x hx=>by
   have hpos:0<q.1.kp.length:=(zid.1 (hpe q (hp.mem_iff.1 hq))).pos;have:=((hL.fr q hq) hpos x hx).1;omega) (fun q hq=>hpe q (hp.mem_iff.1 hq)) (by rw[hlen];exact hn) u0 u1 u3 u6 u7 u8 u9 gF gG gH gI gJ gK gL gM gN gO gP gQ gR gT gV gW gX gY gZ i6 i7 i8 ia ib ic ie ig ii ij ik il im io ip iq ir iu iv iw iy iz iA iB iC iD iE iF iG iH iI iJ iK iL iM iN iO iP iQ iR iS iT iU iV iW iX iY iZ j0 j1 j2 j9 jb jd je jf jg jh ji jj jk jl jm jn jo jp jq jr js jt ju bB bD bE bF bG bH bI bJ bK bL bM bN bO bP bQ bT bU bV bW bX bY bZ
  rw[hlen] at h;have hmem:∀ x,x∈L.map (·.1)↔x∈gs.map (·.1):=fun x=>(hp.map (·.1)).mem_iff;have he:zsd w (zL A n a) br (L.map (·.1))=zsd w (zL A n a) br (gs.map (·.1)):=by
   funext e w'
   exact propext ⟨fun h=>h.perm hmem (by rw[Zk,Zk,hlen]),fun h=>h.perm (fun x=>(hmem x).symm) (by rw[Zk,Zk,hlen])⟩
  rw[he] at h;exact h)
 simp only[Tryz.f43,Zp,tailAt,hasReg] at hT
 simp at hT
 subst hT;have HI0:=hd_ hI;have HPE:=hd_ hpe;clear hP hR hb hI hpe;go_wp2_with fail;go_loopw [38] (fun i wr=>∃(k:Nat) (L:List PatM),i=zI k/\k<=gs.length/\Hid (LsS 56 W1 wr (zL Av gs.length cv) L/\L.Perm gs)) (fun i _=>gs.length - (intOf i).toNat)
 exact⟨0,gs,rfl,Zg _,hd_ ⟨HI0,List.Perm.refl _⟩⟩
 obtain⟨i,L0,rfl,hi,HI⟩:=hrel;by_cases hlt:i<gs.length
 ·obtain⟨g,cg,hsl⟩:=z0s HI.out.1.own (by rw[HI.out.2.length_eq];omega)
  injection hsl with hs1 hs2 hs3
  subst hs1 hs3;clear hs2;have HLT:=hd_ hlt;go_wp2_with fail;have HI2:=hd_ HI;clear HI;go_loopw [11] (fun z wr=>∃(K:Nat) (L:List PatM),z=zI K/\K<=i/\Hid (LsS 56 W1 wr (zL (some ⟨g,0,none⟩) gs.length cv) L/\L.Perm gs)) (fun z _=>(intOf z).toNat)
  exact⟨i,L0,rfl,Zd _,HI2⟩
  obtain⟨K,L,rfl,hK,HJ⟩:=hrel;cases K with
  | zero =>
   have hz0:¬((0:Int)<0):=by omega
   have HDN:=hd_ (fun n=>z48 wr n);go_upto_region 13 with fail;go_quiet (fail)
   go_wp2_with fail;go_roundw
   exact⟨i+1,L,by go_num,by have:=HLT.out;omega,hd_ ⟨HJ.1.ku (HDN _),HJ.2⟩⟩
   have:=HLT.out;simp [intOf];omega
  | succ k =>
   have hlen:=HJ.out.2.length_eq;have hk1:k+1<L.length:=by omega
   have hk0:k<L.length:=by omega
   obtain⟨c0,c1,f0,f1⟩:=HJ.out.1.cellAt hlen hk1;obtain⟨d0,d1,e0,e1⟩:=HJ.out.1.cellAt hlen hk0;have HPT:=hd_ (HJ.1.pat L[k+1] (Za hk1));have HPU:=hd_ (HJ.1.pat L[k] (Za hk0));have HET:=hd_ (zid.1 (HPE L[k+1] (HJ.2.mem_iff.1 (Za hk1))));have HEU:=hd_ (zid.1 (HPE L[k] (HJ.2.mem_iff.1 (Za hk0))));have HSW:Hid (∀ X,zB wr X->LsS 56 W1 ((((X.setCell ⟨g,(k+1) * 2,none⟩ L[k].v).setCell ⟨g,(k+1) * 2+1,none⟩ (.bool L[k].1.kr)).setCell ⟨g,k * 2,none⟩ L[k+1].v).setCell ⟨g,k * 2+1,none⟩ (.bool L[k+1].1.kr)) (zL (some ⟨g,0,none⟩) gs.length cv) (swpL L (k+1) hk1)):=hd_ (fun X (hX:zB wr X)=>(HJ.1.ku hX).swap hlen hk1 (Nat.succ_pos k));have HSP:=hd_ ((zs3 L (k+1) hk1).trans HJ.2);have ek:L[k+1 - 1]'(by omega)=L[k]:=rfl
   have HCA:=hd_ (fun X (hX:zB wr X)=>(HJ.1.ku hX).cellAt hlen hk1);have HCB:=hd_ (fun X (hX:zB wr X)=>(HJ.1.ku hX).cellAt hlen hk0);generalize swpL L (k+1) hk1=L2 at HSW HSP;generalize L[k+1]=t at c0 c1 HPT HET HSW HCA;generalize L[k]=u at d0 d1 HPU HEU HSW HCB;obtain⟨t,At,ct⟩:=t;obtain⟨u,Au,cu⟩:=u;have ez:((k+1:Nat):Int)=(k:Int)+1:=by omega
   rw[ez];have HKI:=hd_ hK;go_upto_region 13 with fail;refine smR13 _ (by kernel_rfl) _ wr g gs.length cv k ct cu At Au t u c0 c1 d0 d1 HPT HPU HET.pos HEU.pos HET.len HEU.len (by omega) hn ?_
   intro eW eX eY eZ fa fd fe ff fg fh fj fk fm fp fq b w5 hb5;have HB5:=hd_ hb5;clear c0 c1 d0 d1 f0 f1 e0 e1 hb5;cases b with
   | false =>
    go_wp2_with fail;go_roundw
    exact⟨i+1,L,by go_num,by have:=HLT.out;omega,hd_ ⟨HJ.1.ku HB5,HJ.2⟩⟩
    have:=HLT.out;simp [intOf];omega
   | true =>
    obtain⟨c0,c1,f0,f1⟩:=HCA.out w5 HB5.out;obtain⟨d0,d1,e0,e1⟩:=HCB.out w5 HB5.out;have hsw:=HSW.out w5 HB5.out;go_upto_region 15 with fail;refine smR15 _ (by kernel_rfl) _ w5 g gs.length cv k t.kp.length ct u.kp.length cu At Au t.kr u.kr (by omega) hn c0 c1 d0 d1 f0 f1 e0 e1 ?_
    intro fw fx fy fA fB fC fD fE fF fG fH fI fJ fK fL fM;have HN:=hd_ (LsS.ku hsw (Zb _ _).drew);clear c0 c1 d0 d1 f0 f1 e0 e1 hsw;have HN:Hid (LsS 56 W1 (((((w5.setCell ⟨g,(k+1) * 2,none⟩ (zL Au u.kp.length cu)).setCell ⟨g,(k+1) * 2+1,none⟩ (.bool u.kr)).setCell ⟨g,k * 2,none⟩ (zL At t.kp.length ct)).setCell ⟨g,k * 2+1,none⟩ (.bool t.kr)).drew) (zL (some ⟨g,0,none⟩) gs.length cv) L2):=HN;generalize ((((w5.setCell ⟨g,(k+1) * 2,none⟩ (zL Au u.kp.length cu)).setCell ⟨g,(k+1) * 2+1,none⟩ (.bool u.kr)).setCell ⟨g,k * 2,none⟩ (zL At t.kp.length ct)).setCell ⟨g,k * 2+1,none⟩ (.bool t.kr)).drew=W6 at HN |-;have hz4:(k:Int)+1 - 1=(k:Int):=by omega
    have hz6:IntKind.i64.wrap (k:Int)=(k:Int):=by rw[IntKind.wrap_i64];omega
    go_wp2_with fail;go_roundw
    exact⟨k,L2,by go_num,by have:=HKI.out;omega,hd_ ⟨HN,HSP⟩⟩
    simp [intOf]
 ·have hke:i=gs.length:=by omega
  subst hke;rename ∀ a w,Code.wp _ (Code.seq (Code.region 17 _ _) _) _ a w->_=>hk7
  have HK7:=hd_ hk7;clear hk7;have hge:¬((gs.length:Int)<(gs.length:Int)):=by omega
  go_wp2_with fail;exact HK7 _ _ (HTA _ (by kernel_rfl) L0 wr HI.1 HI.2 _ _ _ _ _ _ _ _ _ _ _ _ _ _ _ _ _ _ _ _ _ _ _ _ _ _ _ _ _ _ _ _ _ _ _ _ _ _ _ _ _ _ _ _ _ _ _ _ _ _ _ _ _ _ _ _ _ _ _ _ _ _ _ _ _ _ _ _ _ _ _ _ _ _ _ _ _ _ _ _ _ _ _ _ _ _ _ _ _ _ _ _ _ _ _ _ _ _ _ _ _ _ _ _ _ _ _ _ _ _ _ _ _ _ _ _ _ _ _)
theorem rSimpW (p:Pat)(hs:List PatM)(A H:zP)(a hc:Nat)(w:zW)(hp:zbx w (zL A p.kp.length a) p)(hh:HolesIn w (zL H hs.length hc) hs)(hn:hs.length<=1000):
  Calls Tryz.prog 43 #[.agg #[zL A p.kp.length a,.bool p.kr],zL H hs.length hc] w (zsd w (zL A p.kp.length a) p.kr ((hs.map (·.1)).filterMap (zc6 p))):=by
 obtain⟨W1,hW1⟩:∃ W,W=(w.alloc (zC #[zL A p.kp.length a,.bool p.kr] 56)).alloc (zC #[zL none 0 0,.bool false,zL none 0 0] 66):=⟨_,rfl⟩;have hA:zB w W1:=by rw[hW1];exact (zR).alloc (by simp) _
 have h2:zch W1 w.heap.size (zL A p.kp.length a) p.kr:=by rw[hW1];exact (z0l w [zL A p.kp.length a,.bool p.kr] 56).alloc _
 have h4:Blk W1 (w.heap.size+1) 66 [zL none 0 0,.bool false,zL none 0 0]:=by
  rw[hW1];have:=z0l (w.alloc (zC #[zL A p.kp.length a,.bool p.kr] 56)) [zL none 0 0,.bool false,zL none 0 0] 66;simp only[Zl] at this
  exact this
 have HW1:=hd_ hW1;have HA:=hd_ hA;have H2:=hd_ h2;have H4:=hd_ h4;have HP:=hd_ hp;have HH:=hd_ hh;clear hW1 hA h2 h4 hp hh;have HTA:=hd_ (fun T hT W Av cv (gs:List PatM) (hI:LsS 56 W1 W (zL Av gs.length cv) gs) hpe hn=>smT9W T hT w W1 W A Av p.kp.length a w.heap.size (w.heap.size+1) cv p.kr gs H2 H4 HA (by omega) hI hpe hn)
 go_enter Tryz.func43,Tryz.ntmps43;go_upto_region 1 with fail;rw[<- HW1.out];go_wp2_with fail;go_loopw [5,20] (fun v i wr=>∃(k:Nat) (gs:List PatM),i=zI k/\k<=hs.length/\gs.length<=k/\Hid (LsS 56 W1 wr v gs/\gs.map (·.1)=((hs.take k).map (·.1)).filterMap (zc6 p))) (fun _ i _=>hs.length - (intOf i).toNat)
 exact⟨0,[],rfl,Zg _,Zd _,hd_ ⟨LsS.zero _ _,rfl⟩⟩
 obtain⟨k,gs,rfl,hk,hgk,HI⟩:=hrel;by_cases hlt:k<hs.length
 ·have HBW:=hd_ (z0r HA HI.1.low);obtain⟨ad,rfl,hab,s0,s1⟩:=(HH.out.kw HBW.out).at_ hlt;have HPK:=hd_ ((HH.kw HBW).2 hs[k] (Za hlt));have HTK:Hid (((hs.take (k+1)).map (·.1)).filterMap (zc6 p)=gs.map (·.1)++(zc6 p hs[k].1).toList):=hd_ (by
   rw[Zr hlt,Zs,List.filterMap_append,<- HI.out.2];cases h:zc6 p hs[k].1 <;> simp [h])
  obtain⟨Av,cv,rfl⟩:=z0o HI.out.1.own;have HLT:=hd_ hlt;generalize hs[k]=q at s0 s1 HPK HTK;obtain⟨q,Aq,cq⟩:=q;change wr.cell? _=some (.slice Aq q.kp.length cq) at s0;change wr.cell? _=some (.bool q.kr) at s1;have HPK:Hid (zbx wr (zL Aq q.kp.length cq) q):=HPK;have HTK:Hid (((hs.take (k+1)).map (·.1)).filterMap (zc6 p)=gs.map (·.1)++(zc6 p q).toList):=HTK;have hX:zB wr (wr.alloc (zC #[zL Aq q.kp.length cq,.bool q.kr] 56)):=zR;have HI1:=hd_ (HI.1.ku hX);have HX1:Hid (zch (wr.alloc (zC #[zL Aq q.kp.length cq,.bool q.kr] 56)) wr.heap.size (zL Aq q.kp.length cq) q.kr):=hd_ (z0l wr [zL Aq q.kp.length cq,.bool q.kr] 56);have HPQ:=hd_ (HPK.kw hX);clear hab hX;go_upto_region 5 with fail;clear s0 s1;generalize wr.alloc (zC #[zL Aq q.kp.length cq,.bool q.kr] 56)=W5 at HI1 HX1 HPQ |-;generalize wr.heap.size=g7 at HX1 |-;have HB5:=hd_ (z0r HA HI1.low);have HME:=hd_ (zs7 p q A Aq a cq W5 (HP.kw HB5) HPQ);have hPB:=H2.out.low HI1.out.low;have x0:=hPB.c0;have x1:=hPB.c1;have y0:=HX1.out.c0;have y1:=HX1.out.c1;clear hPB;go_wp2_with fail;refine HME.mono ?_;rintro e w4 ⟨hb,⟨hm,rfl⟩ | ⟨m,A6,c6,hmm,rfl,hfr,hpm⟩⟩
  ·dsimp only;have hX:zB w4 (w4.alloc (zC #[zL none 0 0,.bool false] 56)):=zR;have HI2:=hd_ (HI1.ku (z0r hb hX));have HGS:Hid (gs.map (·.1)=((hs.take (k+1)).map (·.1)).filterMap (zc6 p)):=hd_ (by rw[HTK.out,hm];simp)
   clear hb hX hm x0 x1 y0 y1;go_wp2_with fail;go_roundw
   exact⟨k+1,gs,by go_num,by have:=HLT.out;omega,by omega,hd_ ⟨HI2,HGS⟩⟩
   have:=HLT.out;simp [intOf];omega
  ·dsimp only;have hX:zB w4 (w4.alloc (zC #[zL A6 m.kp.length c6,.bool m.kr] 56)):=zR;have HX6:Hid (zch (w4.alloc (zC #[zL A6 m.kp.length c6,.bool m.kr] 56)) w4.heap.size (zL A6 m.kp.length c6) m.kr):=hd_ (z0l w4 [zL A6 m.kp.length c6,.bool m.kr] 56);have HI2:=hd_ (HI1.ku (z0r hb hX));have HPM:=hd_ (hpm.kw hX);have HFR:Hid (∀ x,(zL A6 m.kp.length c6).ownBlock=some x->W1.heap.size<=x/\(zL Av gs.length cv).ownBlock≠some x):=hd_ (fun x hx=>by
    have h1:=hfr x hx;refine⟨Zf HI1.low.size h1,fun e=>?_⟩;have h2:=(HI1.out.own.lt x e).2;omega)
   have HGS:Hid ((gs++[((m,A6,c6):PatM)]).map (·.1)=((hs.take (k+1)).map (·.1)).filterMap (zc6 p)):=hd_ (by rw[HTK.out,hmm,Zs];rfl)
   clear hb hX hmm hfr hpm x0 x1 y0 y1;go_upto_region 6 with fail;generalize w4.alloc (zC #[zL A6 m.kp.length c6,.bool m.kr] 56)=W6 at HX6 HI2 HPM |-;generalize w4.heap.size=g8 at HX6 |-;have y0:=HX6.out.c0;have y1:=HX6.out.c1;have hX:zB W6 (W6.alloc (zC #[zL A6 m.kp.length c6,.bool m.kr] 56)):=zR;have HI3:=hd_ (HI2.ku hX);have HPM3:=hd_ (HPM.kw hX);have hrow:=z0i W6 [zL A6 m.kp.length c6,.bool m.kr] 56 2 1 rfl (by decide) _ rfl
   have hsz:W1.heap.size<=(W6.alloc (zC #[zL A6 m.kp.length c6,.bool m.kr] 56)).heap.size:=HI3.out.low.size;clear hX;go_wp2_with (at_builtin;refine z0j rfl rfl zlm HI3.own rfl hrow rfl (by simp [Value.oneCell']) (by omega) (by unfold maxLen;omega) hsz ?_;intro A9 c9 w9 hown hgr hob;have HP9:=hd_ (HI3.push (q:=(m,A6,c6)) HPM3 (fun _=>HFR) hown hgr hob);clear hown hgr hob)
   go_roundw
   exact⟨k+1,_,by go_num,by have:=HLT.out;omega,by simp;omega,hd_ ⟨HP9,HGS⟩⟩
   have:=HLT.out;simp [intOf];omega
 ·have hke:k=hs.length:=by omega
  subst hke;rename ∀ a w,Code.wp _ (Code.seq (Code.seq (Code.region 9 _ _) _) _) _ a w->_=>hk7
  have HK7:=hd_ hk7;clear hk7;obtain⟨Av,cv,rfl⟩:=z0o HI.out.1.own;have HGS:Hid (gs.map (·.1)=(hs.map (·.1)).filterMap (zc6 p)):=hd_ (by have:=HI.out.2;rw[ZH] at this;exact this)
  have hge:¬((hs.length:Int)<(hs.length:Int)):=by omega
  go_wp2_with fail;have hf:=fun T hT=>HTA.out T hT wr Av cv gs HI.out.1 (fun q hq=>by
   have hm:q.1∈gs.map (·.1):=ZJ hq;rw[HGS.out] at hm;obtain⟨h,-,he⟩:=Yf.1 hm;exact zie he) (by omega)
  rw[HGS.out] at hf;exact HK7 _ _ (hf _ (by kernel_rfl) _ _ _ _ _ _ _ _ _ _ _ _ _ _ _ _ _ _ _ _ _ _ _ _ _ _ _ _ _ _ _ _ _ _ _ _ _ _ _ _ _ _ _ _ _ _ _ _ _ _ _ _ _ _ _ _ _ _ _ _ _ _ _ _ _ _ _ _ _ _ _ _ _ _ _ _ _ _ _ _ _ _ _ _ _ _ _ _ _ _ _ _ _ _ _ _ _ _ _ _ _ _ _ _ _ _ _ _ _ _ _ _ _ _ _ _ _ _ _)
section
variable {u0 u1 u2 u3 u4 u5 u6 u7 u8 u9 gF gG gH gI gJ gK gL gM gN gO gP gQ gR gT gV gW gX gY gZ : zV}
def RcFin (W5 W9:zW)(g9 nm c6 n:Nat)(A6 A8:zP)(br:Bool)(c8:Nat)(xs:List zV):Prop:=zB W5 W9/\Blk W9 g9 66 [zL A6 nm c6,.bool br,zL A8 n c8]/\Row W9 2 (zL A8 n c8) n xs
theorem rc_f1 {W5 w8:zW}{nm c6 n c8:Nat}{A6 A8:zP}{br:Bool}{B:Nat}{xs:List zV}(hS8:zB W5 w8)(hO8:w8.ownsRow B 56 2 (zL A8 n c8) n xs):
    RcFin W5 (w8.alloc (zC #[zL A6 nm c6,.bool br,zL A8 n c8] 66)) w8.heap.size nm c6 n A6 A8 br c8 xs:=
  ⟨hS8.alloc hS8.size _,z0l w8 _ _,Row.kw (Row.of_own hO8) (zR)⟩
theorem rc_f2 {W5 w8:zW}{g nm c6 n c8:Nat}{A6 A8:zP}{br:Bool}{B:Nat}{xs:List zV}(hS8:zB W5 w8)(hO8:w8.ownsRow B 56 2 (zL A8 n c8) n xs)(hZ:Blk w8 g 66 [zL none 0 0,.bool false,zL none 0 0])(hg:W5.heap.size<=g)(hne:(zL A8 n c8).ownBlock≠some g):
    RcFin W5 (((w8.setCell ⟨g,0,none⟩ (zL A6 nm c6)).setCell ⟨g,1,none⟩ (.bool br)).setCell ⟨g,2,none⟩ (zL A8 n c8)) g nm c6 n A6 A8 br c8 xs:=by
  have hrp:=zlu hS8 hZ hg (zL A6 nm c6) (.bool br) (zL A8 n c8);exact⟨hrp.1,hrp.2,Row.set_far (Row.set_far (Row.set_far (Row.of_own hO8) hne) hne) hne⟩
theorem rc_ne {w7:zW}{n c8:Nat}{A8:zP}{v:zV}{B k:Nat}{e:TypeId}{m:Nat}{xs:List zV}(hO7:w7.ownsRow B e k v m xs){o:Obj}(hw8:(zL A8 n c8).ownBlock=v.ownBlock\/(zL A8 n c8).ownBlock=some (w7.alloc o).heap.size):(zL A8 n c8).ownBlock≠some w7.heap.size:=by
  rcases hw8 with e | e
  · rw[e];exact fun e2=>by have:=(hO7.lt _ e2).2;omega
  · rw[e];intro e2;injection e2 with e2;simp at e2
theorem rc_ne2 {w8:zW}{n c8 g:Nat}{A8:zP}{B k:Nat}{e:TypeId}{m:Nat}{xs:List zV}(hO8:w8.ownsRow B e k (zL A8 n c8) m xs)(h:g<B):(zL A8 n c8).ownBlock≠some g:=fun e=>by have:=(hO8.lt _ e).1;omega
theorem rcR4 (ops:Array Oper)(hops:Tryz.f23.body.bind (z0w 4)=some ops)(Q:Exit->Act->zW->Prop)(W5:zW)(ga gb g5 nm c6 hc kc:Nat)(A6 H K:zP)(br:Bool)(hs ks:List PatM)
    (hF:∀ X,zB W5 X->X.cell? ⟨g5,0,none⟩=some (.slice A6 nm c6)/\X.cell? ⟨g5,1,none⟩=some (.bool br)/\X.cell? ⟨ga,2,none⟩=some (.slice H hs.length hc)/\X.cell? ⟨gb,2,none⟩=some (.slice K ks.length kc))
    (hA:Row W5 2 (zL H hs.length hc) hs.length (hs.flatMap PatM.cells)) (hB:Row W5 2 (zL K ks.length kc) ks.length (ks.flatMap PatM.cells)) (hn:hs.length<=400) (hn2:ks.length<=400)
    (hQ:∀(eu ew eA eB eC eD eE eF:zV) (g9:Nat) (A8:zP) (c8:Nat) (W9:zW),Hid (RcFin W5 W9 g9 nm c6 (hs.length+ks.length) A6 A8 br c8 ((hs++ks).flatMap PatM.cells))->Q .normal ⟨#[u0,u1,.pointer (some ⟨ga,0,none⟩),.pointer (some ⟨gb,0,none⟩),u4,.pointer (some ⟨g5,0,none⟩),u6,.pointer (some ⟨g9,0,none⟩),u8,u9,gF,gG,gH,gI,gJ,gK,gL,gM,eu,ew,eA,eB,eC,eD,eE,eF,gX,gY,gZ],[]⟩ W9):
    (Code.region 4 ops true).wp Tryz.prog Q ⟨#[u0,u1,.pointer (some ⟨ga,0,none⟩),.pointer (some ⟨gb,0,none⟩),u4,.pointer (some ⟨g5,0,none⟩),u6,u7,u8,u9,gF,gG,gH,gI,gJ,gK,gL,gM,gN,gO,gP,gQ,gR,gT,gV,gW,gX,gY,gZ],[]⟩ W5:=by
  simp only[Tryz.f23,Zp,z0w] at hops
  simp at hops
  subst hops;have HQ:=hd_ hQ;have HF:=hd_ hF;have HRA:=hd_ (fun X (hX:zB W5 X)=>Row.kw hA hX);have HRB:=hd_ (fun X (hX:zB W5 X)=>Row.kw hB hX);have HOA:=hd_ (zme hs);have HOB:=hd_ (zme ks);clear hQ hF hA hB;obtain⟨m0,m1,x2,y2⟩:=HF.out W5 (Zb _ _);have hZ0:zB W5 (W5.alloc (zC #[zL none 0 0,.bool false,zL none 0 0] 66)):=zR;obtain⟨k0,k1,k2,k3⟩:=HF.out _ hZ0;have HZ0:=hd_ hZ0;clear hZ0;refine wp_region_noPanic ?_;go_region_law (first
    | (refine step_app (base:=W5.heap.size) (n:=0) (xs:=[]) rfl rfl zlm (Zv _ _ _ _) (by simp [Act.eval,Act.put];done) (HRA _ (Zb _ _).drew) (by simp [Act.eval,Act.put];done) HOA (by omega) (by unfold maxLen;omega) (by simp) ?_;intro A7 c7 w7 hO7 hG7 hw7;have hX7:=below_nogrow2 hG7 rfl;have hS7:zB W5 w7:=(Zb _ _).drew.trans hX7;have hB7:Hid (W5.heap.size<=W5.heap.size):=hd_ (Zd _);obtain⟨f5,f6,f7,f8⟩:=HF.out w7 hS7;obtain⟨j5,j6,j7,j8⟩:=HF.out (w7.alloc (zC #[zL none 0 0,.bool false,zL none 0 0] 66)) (hS7.alloc hS7.size _);rw[ZV,Yc] at hO7)
    | (refine step_app (base:=(W5.alloc (zC #[zL none 0 0,.bool false,zL none 0 0] 66)).heap.size) (n:=0) (xs:=[]) rfl rfl zlm (Zv _ _ _ _) (by simp [Act.eval,Act.put];done) (HRA _ HZ0.drew) (by simp [Act.eval,Act.put];done) HOA (by omega) (by unfold maxLen;omega) (by simp) ?_;intro A7 c7 w7 hO7 hG7 hw7;have hX7:=below_nogrow2 hG7 rfl;have hS7:zB W5 w7:=z0r HZ0 ((Zb _ _).drew.trans hX7);have HZ7:=hd_ (Blk.kw (z0l W5 [zL none 0 0,.bool false,zL none 0 0] 66) ((Zb _ _).drew.trans hX7) (by simp));obtain⟨f5,f6,f7,f8⟩:=HF.out w7 hS7;rw[ZV,Yc] at hO7)
    | (refine step_app (base:=W5.heap.size) rfl rfl zlm (z0n hO7 ((Zb w7.heap.size w7).alloc (Zd _) (zC #[zL none 0 0,.bool false,zL none 0 0] 66))) (by simp [Act.eval,Act.put];done) (HRB _ (hS7.alloc hS7.size _)) (by simp [Act.eval,Act.put];done) HOB (by omega) (by unfold maxLen;omega) (hS7.alloc hS7.size _).size ?_;intro A8 c8 w8 hO8 hG8 hw8;have hS8:zB W5 w8:=(hS7.alloc hS7.size (zC #[zL none 0 0,.bool false,zL none 0 0] 66)).grown hG8 (hS7.alloc hS7.size _).size (fun k e=>(hO7.lt k e).1);obtain⟨g1,g2,g3,g4⟩:=HF.out w8 hS8;have HZ8:=hd_ (Blk.grown (z0l w7 [zL none 0 0,.bool false,zL none 0 0] 66) hG8 (fun e=>by have:=(hO7.lt _ e.symm).2;omega));obtain⟨i0,i1,i2⟩:=(⟨HZ8.out.frozen 0,HZ8.out.frozen 1,HZ8.out.frozen 2⟩:w8.frozen? ⟨w7.heap.size,0,none⟩=false/\w8.frozen? ⟨w7.heap.size,1,none⟩=false/\w8.frozen? ⟨w7.heap.size,2,none⟩=false);obtain⟨n0,n1,n2⟩:=(⟨HZ8.out.cell 0,HZ8.out.cell 1,HZ8.out.cell 2⟩:w8.cell? ⟨w7.heap.size,0,none⟩=some (.slice none 0 0)/\w8.cell? ⟨w7.heap.size,1,none⟩=some (.bool false)/\w8.cell? ⟨w7.heap.size,2,none⟩=some (.slice none 0 0)))
    | (refine step_app (base:=W5.heap.size) rfl rfl zlm hO7 (by simp [Act.eval,Act.put];done) (HRB _ hS7) (by simp [Act.eval,Act.put];done) HOB (by omega) (by unfold maxLen;omega) hS7.size ?_;intro A8 c8 w8 hO8 hG8 hw8;have hS8:zB W5 w8:=hS7.grown hG8 hS7.size (fun k e=>(hO7.lt k e).1);obtain⟨g1,g2,g3,g4⟩:=HF.out w8 hS8;obtain⟨l1,l2,l3,l4⟩:=HF.out (w8.alloc (zC #[zL none 0 0,.bool false,zL none 0 0] 66)) (hS8.alloc hS8.size _))
    | (refine step_app (base:=(W5.alloc (zC #[zL none 0 0,.bool false,zL none 0 0] 66)).heap.size) rfl rfl zlm hO7 (by simp [Act.eval,Act.put];done) (HRB _ hS7) (by simp [Act.eval,Act.put];done) HOB (by omega) (by unfold maxLen;omega) (by have:=hX7.size;simpa using this) ?_;intro A8 c8 w8 hO8 hG8 hw8;have hS8:zB W5 w8:=hS7.grown hG8 hS7.size (fun k e=>by have:=(hO7.lt k e).1;simp at this;omega);obtain⟨g1,g2,g3,g4⟩:=HF.out w8 hS8;have HZ8:=hd_ (Blk.grown HZ7 hG8 (fun e=>by have:=(hO7.lt _ e.symm).1;simp at this;omega));obtain⟨i0,i1,i2⟩:=(⟨HZ8.out.frozen 0,HZ8.out.frozen 1,HZ8.out.frozen 2⟩:w8.frozen? ⟨W5.heap.size,0,none⟩=false/\w8.frozen? ⟨W5.heap.size,1,none⟩=false/\w8.frozen? ⟨W5.heap.size,2,none⟩=false);obtain⟨n0,n1,n2⟩:=(⟨HZ8.out.cell 0,HZ8.out.cell 1,HZ8.out.cell 2⟩:w8.cell? ⟨W5.heap.size,0,none⟩=some (.slice none 0 0)/\w8.cell? ⟨W5.heap.size,1,none⟩=some (.bool false)/\w8.cell? ⟨W5.heap.size,2,none⟩=some (.slice none 0 0))))
  all_goals
    rw[<- ZI] at hO8;first
      | (have hfin:=hd_ (rc_f2 (A6:=A6) (nm:=nm) (c6:=c6) (br:=br) hS8 hO8 HZ8 (g:=w7.heap.size) hS7.size (rc_ne hO7 hw8))
         exact NoPanic.normal (HQ _ _ _ _ _ _ _ _ w7.heap.size A8 c8 _ hfin))
      | (have hfin:=hd_ (rc_f2 (A6:=A6) (nm:=nm) (c6:=c6) (br:=br) hS8 hO8 HZ8 (g:=W5.heap.size) (Zd _) (rc_ne2 hO8 (by simp)))
         exact NoPanic.normal (HQ _ _ _ _ _ _ _ _ W5.heap.size A8 c8 _ hfin))
      | (have hfin:=hd_ (rc_f1 (A6:=A6) (nm:=nm) (c6:=c6) (br:=br) hS8 hO8)
         exact NoPanic.normal (HQ _ _ _ _ _ _ _ _ w8.heap.size A8 c8 _ hfin))
end
