/- A part. -/
import Derived.Test.YtlnjaagijaadmaaGreatDoorMvw23
import Derived.Test.YtlnjaagijaadmaaGreatDoorMvw22
set_option linter.unusedVariables false
set_option linter.unusedSimpArgs false
set_option maxHeartbeats 8000000
set_option maxRecDepth 100000
namespace Go.Proofs.YtlnjaagijaadmaaGreatDoor
open Go.RowKit
def SubW (w:zW)(p:Pat)(zs tl:List zA)(tr:Bool)(e:Ending)(w':zW):Prop:=zB w w'/\((12<p.kp.length+tl.length/\p.kr=true/\e=.returned (.tuple #[.agg #[zL none 0 0,.bool false],zI 31])) \/
  ((p.kr=true->p.kp.length+tl.length<=12)/\∃ A' c',e=.returned (.tuple #[.agg #[zL A' (p.kp.length+tl.length) c',.bool tr],zI 0])/\(∀ x,(zL A' (p.kp.length+tl.length) c').ownBlock=some x->w.heap.size<=x)/\z20 w' (zL A' (p.kp.length+tl.length) c') (zcl p.kp zs++tl)))
structure SbW (w wr:zW)(g4 g11:Nat)(v:zV)(b:Bool)(n:Nat)(l:List zA):Prop where
  low:zB w wr
  le4:w.heap.size<=g4
  le:g4<g11
  box4:zch wr g4 (zL none 0 0) false
  box:zch wr g11 v b
  own:wr.ownsRow w.heap.size 9 1 v n (l.map .string)
  ne4:v.ownBlock≠some g4
  ne:v.ownBlock≠some g11
theorem SbW.ku {w wr wx:zW}{g4 g11 n:Nat}{v:zV}{b:Bool}{l:List zA}(h:SbW w wr g4 g11 v b n l)(hb:zB wr wx):SbW w wx g4 g11 v b n l:=⟨z0r h.low hb,h.le4,h.le,h.box4.low hb,h.box.low hb,z0n h.own hb,h.ne4,h.ne⟩
theorem SbW.put {w wr:zW}{g4 g11 n g c j:Nat}{b:Bool}{l:List zA}(h:SbW w wr g4 g11 (zL (some ⟨g,0,none⟩) n c) b n l)(s:zA):SbW w (wr.setCell ⟨g,j,none⟩ (zS s)) g4 g11 (zL (some ⟨g,0,none⟩) n c) b n (l.set j s):=by
  have hg:w.heap.size<=g:=(h.own.lt g rfl).1;have n4:g≠g4:=fun e=>h.ne4 (by rw[e];rfl)
  have n11:g≠g11:=fun e=>h.ne (by rw[e];rfl)
  refine⟨h.low.setCell (p:=⟨g,j,none⟩) hg _,h.le4,h.le,Blk.far h.box4 n4 _,Blk.far h.box n11 _,?_,h.ne4,h.ne⟩;rw[List.map_set];exact zbz h.own _
theorem SbW.app {w wr w2:zW}{g4 g11 k n:Nat}{v:zV}{b:Bool}{l m:List zA}{A':zP}{c':Nat}(h:SbW w wr g4 g11 v b k l)(hn:n=k+m.length)
    (hown:w2.ownsRow w.heap.size 9 1 (zL A' n c') n (l.map .string++m.map .string)) (hgr:wr.grownBy w2 v.ownBlock)
    (hob:(zL A' n c').ownBlock=v.ownBlock\/(zL A' n c').ownBlock=some wr.heap.size):
    SbW w (w2.setCell ⟨g11,0,none⟩ (zL A' n c')) g4 g11 (zL A' n c') b n (l++m):=by
  have l4:=Blk.lt h.box4;have l11:=Blk.lt h.box;have n4:(zL A' n c').ownBlock≠some g4:=by
    rcases hob with e | e
    · rw[e];exact h.ne4
    · rw[e];intro e2;injection e2 with e2;omega
  have n11:(zL A' n c').ownBlock≠some g11:=by
    rcases hob with e | e
    · rw[e];exact h.ne
    · rw[e];intro e2;injection e2 with e2;omega
  have hlt:=h.le;have hl4:=h.le4;refine⟨(h.low.grown hgr h.low.size (fun k e=>(h.own.lt k e).1)).setCell (p:=⟨g11,0,none⟩) (by show w.heap.size<=g11;omega) _,h.le4,h.le,Blk.far (Blk.grown h.box4 hgr (fun e=>h.ne4 e.symm)) (by show g11≠g4;omega) _,(Blk.grown h.box hgr (fun e=>h.ne e.symm)).set_ 0 _,?_,n4,n11⟩
  rw[Zs];exact z5c hown (p:=⟨g11,0,none⟩) n11 _
theorem substW (p:Pat)(zs tl:List zA)(tr:Bool)(A:zP)(a:Nat)(C:zP)(c:Nat)(bs:List PatM)(w:zW)(hp:zbx w (zL A p.kp.length a) p)(hn:zlf p zs tl tr)
    (hb:HolesIn w (zL C bs.length c) bs) (hm:bs.map (·.1)=zle p zs tl tr) (htl:tl.length<=1000):
    Calls Tryz.prog 191 #[.agg #[zL A p.kp.length a,.bool p.kr],zL C bs.length c] w (SubW w p zs tl tr):=by
  have hA:zB w ((w.alloc (zC #[zL A p.kp.length a,.bool p.kr] 56)).alloc (zC #[zL none 0 0,.bool false] 56)):=(zR).alloc (by simp) _
  have h2:zch ((w.alloc (zC #[zL A p.kp.length a,.bool p.kr] 56)).alloc (zC #[zL none 0 0,.bool false] 56)) w.heap.size (zL A p.kp.length a) p.kr:=(z0l w [zL A p.kp.length a,.bool p.kr] 56).alloc _;have h3:zch ((w.alloc (zC #[zL A p.kp.length a,.bool p.kr] 56)).alloc (zC #[zL none 0 0,.bool false] 56)) (w.heap.size+1) (zL none 0 0) false:=by
    have:=z0l (w.alloc (zC #[zL A p.kp.length a,.bool p.kr] 56)) [zL none 0 0,.bool false] 56;rw[Zl] at this;exact this
  have hpl:=zcc hn.pat;have hpp:=(zid.1 hn.pat).pos;have hsl:zbq p<=12:=Zf (ZS _ _) hpl;have hbl:bs.length=zbq p+if p.kr then 1 else 0:=by
    have h0:=congrArg List.length hm;rw[Zk] at h0;rw[h0,<- hn.num];unfold zle;rw[Zc,Zk];cases p.kr <;> rfl
  have HKI:Hid (∀ X,zB w X->Calls Tryz.prog 142 #[.agg #[zL A p.kp.length a,.bool p.kr]] X (zbu X p)):=hd_ (fun X hX=>zbv p A a X (hp.kw hX).1 hp.small);have HCL:=hd_ (fun X (hX:zB w X)=>zcd p.kp _ X (hp.kw hX).1 (by omega))
  have HPE:Hid (z8w p=0):=hd_ hn.pat;have HPZ:=hd_ hp.2;have HAT:=hd_ (fun k (hk:k<bs.length)=>sub_at hn hm hk);have HFS:=hd_ (zlg.zero hn hm);have HN:=hd_ hn;have HBS:=hd_ hb;have hcb:bs.length<=c:=by obtain⟨A',c',e,hc,-⟩:=id hb.1;injection e with e1 e2 e3;omega
  clear hp hn hb hm hcb;go_enter Tryz.func191,Tryz.ntmps191;go_upto_region 1 with fail;generalize (w.alloc (zC #[zL A p.kp.length a,.bool p.kr] 56)).alloc (zC #[zL none 0 0,.bool false] 56)=W1 at hA h2 h3 |-;have x0:=h2.c0;have x1:=h2.c1;have H:=hd_ (Zi hA (Zi h2 h3));have HC1:=hd_ (HKI W1 hA);clear hA h2 h3 HKI;go_wp2_with fail;refine HC1.mono ?_;rintro e w2 ⟨n,b',rfl,hk,hb⟩;obtain⟨rfl,hb'⟩:=hk HPE.out;subst hb';rw[HPE.out];have HB:=hd_ (z0r H.1 hb);have HG:=hd_ (Zi (H.out.2.1.low hb) (H.out.2.2.low hb));clear hb x0 x1 hk HC1 H;obtain⟨sn,hsn⟩:∃ s,zbq p=s:=⟨_,rfl⟩;rw[hsn] at HAT hsl hbl |-;clear hsn;obtain⟨r,hr⟩:∃ r,p.kr=r:=⟨_,rfl⟩;have HR:=hd_ hr;rw[hr] at hbl |-;clear hr;have q4a:r=false->((bs.length:Int) != (sn:Int))=false:=fun e=>bne_eq_false_iff_eq.2 (by rw[hbl,e];simp)
  have q4b:r=true->((bs.length:Int) != (sn:Int)+1)=false:=fun e=>bne_eq_false_iff_eq.2 (by rw[hbl,e];simp)
  have hb13:bs.length<=13:=by rw[hbl];split <;> omega
  clear hbl;cases r
  all_goals
    first
      | have q4:=q4a rfl
      | have q4:=q4b rfl
    clear q4a q4b;go_wp2_with fail;go_loopw [45] (fun i wr=>∃ k:Nat,i=zI k/\k<=bs.length/\Hid (zB w2 wr)) (fun i _=>bs.length - (intOf i).toNat)
    exact⟨0,rfl,Zg _,hd_ (Zb _ _)⟩
    obtain⟨k,rfl,hk,HI⟩:=hrel;clear q4;by_cases hlt:k<bs.length
    · have HHX:=hd_ (HBS.kw (HB.trans (HI.mono HB.size)))
      obtain⟨ad,rfl,hab,s0,s1⟩:=HHX.out.at_ hlt;have HPK:=hd_ (HHX.2 bs[k] (Za hlt));have HAK:=hd_ (HAT k hlt);generalize bs[k]=b at s0 s1 HPK HAK;obtain⟨⟨bp,br⟩,Ab,cb⟩:=b;simp only[PatM.v] at s0 s1 HPK HAK
      have HLT:=hd_ hlt;have hX:zB w2 (wr.alloc (zC #[zL Ab bp.length cb,.bool br] 213)):=HI.alloc HI.size _;have hX2:zB wr (wr.alloc (zC #[zL Ab bp.length cb,.bool br] 213)):=zR;have HIB:=hd_ (fun r hr=>zhx bp br r Ab cb _ ((HPK.kw hX2).1) HPK.small HAK.1 hr);have HX:=hd_ hX;clear hX hX2 hab;obtain⟨rb,hrb⟩:∃ rb,((k:Int) == (sn:Int))=rb:=⟨_,rfl⟩;have HCQ:=hd_ (HIB rb (by
        rcases HAK.out.2 with⟨e1,e2⟩ | ⟨e1,e2⟩
        · exact .inl ⟨hrb ▸ e1,e2⟩
        · exact .inr ⟨hrb ▸ e1,e2⟩))
      clear HIB;go_wp2_with fail;refine HCQ.mono ?_;rintro e w4 ⟨rfl,hb⟩;have HB4:=hd_ (z0r HX hb);clear hb s0 s1 hrb;go_wp2_with fail;go_roundw
      exact⟨k+1,by go_num,by omega,HB4⟩
      simp [intOf];omega
    · have hk1:k=bs.length:=by omega
      subst hk1;have hge:¬((bs.length:Int)<(bs.length:Int)):=by omega
      have HB3:=hd_ (z0r HB HI);have HG3:=hd_ (Zi (HG.out.1.low HI.out) (HG.out.2.low HI.out));have HC3:=hd_ (HCL wr HB3);have x0:=HG3.out.1.c0;clear HCL HG HI HB HAT;go_wp2_with fail;refine HC3.mono ?_;rintro e w4 ⟨v',rfl,hown,hb⟩;obtain⟨gt,cv,rfl⟩:=z0s hown hpp;have HB4:=hd_ (z0r HB3 hb);have hg4:=HG3.out.2.low hb;have hsz4:=hb.size;have hw4:=HB3.out.size;have hlt4:=Blk.lt HG3.out.2;have HS:Hid (SbW w (w4.alloc (zC #[zL (some ⟨gt,0,none⟩) p.kp.length cv,.bool false] 56)) (w.heap.size+1) w4.heap.size (zL (some ⟨gt,0,none⟩) p.kp.length cv) false p.kp.length p.kp):=hd_ (by
        have hba:zB w4 (w4.alloc (zC #[zL (some ⟨gt,0,none⟩) p.kp.length cv,.bool false] 56)):=zR;refine⟨z0r HB4 hba,by omega,by have:=Blk.lt hg4;omega,hg4.low hba,z0l w4 _ _,z5a (z0n hown hba) hw4,fun e=>?_,fun e=>?_⟩
        · have:=(hown.lt _ e).1;omega
        · have:=(hown.lt _ e).2;omega)
      clear hb hown hg4 x0 HC3;have y0:=HS.out.box.c0;go_upto_region 13 with fail;generalize w4.alloc (zC #[zL (some ⟨gt,0,none⟩) p.kp.length cv,.bool false] 56)=W5 at HS y0 |-;generalize w4.heap.size=g11 at HS y0 |-;clear hsz4 hw4 hlt4 hge;go_wp2_with fail;go_loopw [1,65] (fun lv i wr=>∃(j:Nat) (D zs':List zA) (rs:List PatM) (C':zP) (c':Nat),lv=zL C' rs.length c'/\i=zI j/\j<=p.kp.length/\Hid (zlg p zs tl tr j D zs' rs/\HolesIn w (zL C' rs.length c') rs/\SbW w wr (w.heap.size+1) g11 (zL (some ⟨gt,0,none⟩) p.kp.length cv) false p.kp.length (D++p.kp.drop j))) (fun _ i _=>p.kp.length - (intOf i).toNat)
      exact⟨0,_,_,_,_,_,rfl,rfl,Zg _,hd_ ⟨HFS,HBS,HS⟩⟩
      obtain⟨j,D,zs',rs,C',c',rfl,rfl,hj,HJ⟩:=hrel;clear y0;by_cases hlt2:j<p.kp.length
      · obtain⟨t0,t1,-⟩:=zc0 HJ.out.2.2.own (zcj HJ.out.1.len hlt2)
        have HT:=hd_ (fun X=>z92 p.kp[j] X);have HSK:=hd_ (fun hs=>HJ.1.skip hlt2 hs);have HST:=hd_ (fun hs=>HJ.1.star hlt2 hs);have HST2:=hd_ (fun z=>set_at (z:=z) HJ.1.len hlt2);have hsz:=HPZ.out p.kp[j] (Za _);have HEQ:=hd_ (show D++p.kp.drop j=(D++[p.kp[j]])++p.kp.drop (j+1) by rw[Zo hlt2,ZE];rfl)
        generalize p.kp[j]=s at t0 HT HSK HST HST2 HEQ hsz;have HLT:=hd_ hlt2;have hjz:(j:Int)<(p.kp.length:Int):=by omega
        cases hst:z8r s with
        | false =>
          rw[hst] at HT;have HSK2:=hd_ (HSK hst);clear hsz hst HSK HST HST2;go_wp2_with (go_at_call 110;refine (HT _).mono ?_;rintro e w' ⟨rfl,rfl⟩)
          go_roundw
          exact⟨j+1,_,_,_,_,_,rfl,by go_num,by omega,hd_ ⟨HSK2,HJ.2.1,by rw[<- HEQ.out];exact HJ.2.2⟩⟩
          simp [intOf];omega
        | true =>
          rw[hst] at HT;have hx1:(1:Int)<=(s.size:Int):=by have:=za8 hst;omega
          obtain⟨z,zs2,b,rs2,rfl,rfl,hb1,hF⟩:=HST.out hst;have HF:=hd_ hF;obtain⟨C2,c2,hcut,htl⟩:=HolesIn.tail HJ.out.2.1;have HTL:=hd_ htl;have HHW:=hd_ (HJ.2.1.kw HJ.2.2.low);obtain⟨ad,rfl,hab,s0,s1⟩:=HHW.out.at_ (Nat.succ_pos _);have hpb:=(HHW.out.2 b (Zj ..)).1;have hzz:=(HHW.out.2 b (Zj ..)).2 z (by rw[hb1];simp)
          have hcat:¬ 9223372036854775807<z.size+(s.size - 1):=by omega
          obtain⟨bp,Ab,cb⟩:=b;have hb1:bp=⟨[z],false⟩:=hb1;subst hb1;have s0:wr.cell? (ad.add (0 * 2))=some (.slice Ab 1 cb):=s0;have hpb:z20 wr (zL Ab [z].length cb) [z]:=hpb;obtain⟨az,rfl,haz,z0⟩:=z20.at_ hpb (k:=0) (by simp)
          have z0:wr.cell? (az.add 0)=some (zS z):=z0;have hadd:ad.add (0 * 2)=ad:=by unfold Addr.add;simp
          have hadz:az.add 0=az:=by unfold Addr.add;simp
          rw[hadd] at s0;rw[hadz] at z0;have y0:=HJ.out.2.2.box.c0;have d0:wr.drew.cell? ad=some (.slice (some az) 1 cb):=s0;have d1:wr.drew.cell? az=some (zS z):=z0;have d2:wr.drew.cell? ⟨g11,0,none⟩=some (.slice (some ⟨gt,0,none⟩) p.kp.length cv):=y0;have d3:wr.drew.cell? ⟨gt,j,none⟩=some (zS s):=t0;have d4:wr.drew.frozen? ⟨gt,j,none⟩=false:=t1;clear hsz hzz hst HSK HST hF htl hab hpb haz hadd hadz s0 s1 z0 hb1;go_upto_region 17 with (go_at_call 110;refine (HT _).mono ?_;rintro e w' ⟨rfl,rfl⟩)
          refine wp_region_noPanic ?_;go_region_law (fail)
          all_goals
            refine NoPanic.normal ?_;have HP9:=hd_ ((HJ.2.2.put (j:=j) (z++s.extract 1 s.size)).ku (Zb _ _).drew);rw[HST2.out] at HP9;clear d0 d1 d2 d3 d4 t0 t1 y0 hcat;generalize (wr.setCell ⟨gt,j,none⟩ (zS (z++s.extract 1 s.size))).drew=W9 at HP9 |-;have hk:=‹∀(a:Act) (w:zW),Code.wp _ _ _ a w->_›;refine hk _ _ ?_;clear hk;go_wp2_with fail;go_roundw
            exact⟨j+1,_,_,_,_,_,rfl,by go_num,by omega,hd_ ⟨HF,HTL,HP9⟩⟩
            simp [intOf];omega
      · have hje:j=p.kp.length:=by omega
        subst hje;obtain⟨hD,hrs⟩:=HJ.out.1.done;have hdr:D++p.kp.drop p.kp.length=zcl p.kp zs:=by rw[Yd,ZM,hD]
        have HS9:=hd_ HJ.2.2;rw[hdr] at HS9;clear hD hdr;have hge:¬((p.kp.length:Int)<(p.kp.length:Int)):=by omega
        have y0:=HS9.out.box.c0;have y1:=HS9.out.box.c1;first
          | (have hrr:p.kr=false:=HR.out
             obtain⟨rfl,rfl⟩:=HN.out.none hrr;rw[hrr] at hrs;obtain rfl:rs=[]:=List.map_eq_nil_iff.1 hrs
             clear hrs;obtain⟨u0,u1,u2,u3⟩:=HS9.out.box4.all;have HRR:=hd_ hrr;clear hrr;go_wp2_with fail;have hE:=zch.put HS9.out.box4 (zL (some ⟨gt,0,none⟩) p.kp.length cv) false;have hb:=zci HS9.out.low (g:=w.heap.size+1) (by omega) (zL (some ⟨gt,0,none⟩) p.kp.length cv) (.bool false)
             have hO:=Row.of_own (z5c (z5c HS9.out.own (p:=⟨w.heap.size+1,0,none⟩) HS9.out.ne4 (zL (some ⟨gt,0,none⟩) p.kp.length cv)) (p:=⟨w.heap.size+1,1,none⟩) HS9.out.ne4 (.bool false));generalize (wr.setCell ⟨w.heap.size+1,0,none⟩ (zL (some ⟨gt,0,none⟩) p.kp.length cv)).setCell ⟨w.heap.size+1,1,none⟩ (.bool false)=W8 at hE hb hO |-;obtain⟨-,-,c0,c1⟩:=hE.all;refine bodyPost_ret (v:=.tuple #[.agg #[zL (some ⟨gt,0,none⟩) p.kp.length cv,.bool false],zI 0]) (by simp [results,Tryz.results191,go_sem,c0,c1]) rfl ⟨hb,.inr ⟨fun e=>(by rw[HRR.out] at e;cases e),some ⟨gt,0,none⟩,cv,rfl,fun x hx=>(HS9.out.own.lt x hx).1,?_⟩⟩
             show Row W8 1 (zL (some ⟨gt,0,none⟩) p.kp.length cv) (zcl p.kp zs++[]).length ((zcl p.kp zs++[]).map .string)
             rw[ZM,zia];exact hO)
          | (have hrr:p.kr=true:=HR.out
             rw[hrr,if_pos rfl] at hrs;obtain⟨x,rfl⟩:∃ x,rs=[x]:=List.length_eq_one_iff.1 (by have:=congrArg List.length hrs;rwa [Zk] at this)
             have hx1:x.1=⟨tl,tr⟩:=(List.cons.inj hrs).1;obtain⟨ad,rfl,hab,s0,s1⟩:=HJ.out.2.1.at_ (k:=0) (Nat.succ_pos _);have hpb:=HJ.out.2.1.2 x (Zj ..);obtain⟨bp,Ac,cc⟩:=x;have hx1:bp=⟨tl,tr⟩:=hx1;subst hx1;have hadd:ad.add (0 * 2)=ad:=by unfold Addr.add;simp
             have HCE:Hid (w.cell? ad=some (.slice Ac tl.length cc)/\w.cell? ⟨ad.block,ad.off+1,none⟩=some (.bool tr)/\ad.block<w.heap.size):=hd_ (by rw[hadd] at s0 s1;exact⟨s0,s1,hab⟩)
             have HL:Hid (z20 w (zL Ac tl.length cc) tl):=hd_ hpb.1;have HRR:=hd_ hrr;clear hrs s0 s1 hpb hadd hab hrr HJ HFS HBS HS;have b0:wr.cell? ad=some (.slice Ac tl.length cc):=(HS9.low.cell HCE.2.2).trans HCE.1;have b1:wr.cell? ⟨ad.block,ad.off+1,none⟩=some (.bool tr):=(HS9.low.cell (p:=⟨ad.block,ad.off+1,none⟩) HCE.2.2).trans HCE.2.1;by_cases hlim:12<p.kp.length+tl.length
             · have q12:decide ((12:Int)<(p.kp.length:Int)+(tl.length:Int))=true:=decide_eq_true (by omega)
               have q13:decide (12<p.kp.length+tl.length)=true:=decide_eq_true hlim;have HLM:=hd_ hlim;clear hlim;go_upto_region 20 with fail;go_quiet (fail)
               go_upto_region 21 with fail;have HSQ:=hd_ (HS9.ku (z48 wr nq));generalize wr.drewN nq=W9 at HSQ |-;clear y0 y1 b0 b1;obtain⟨u0,u1,u2,u3⟩:=HSQ.out.box4.all;go_wp2_with fail;have hE:=HSQ.out.box4.put (zL none 0 0) false;have hb:=zci HSQ.out.low (g:=w.heap.size+1) (by omega) (zL none 0 0) (.bool false)
               generalize (W9.setCell ⟨w.heap.size+1,0,none⟩ (zL none 0 0)).setCell ⟨w.heap.size+1,1,none⟩ (.bool false)=W8 at hE hb |-;obtain⟨-,-,c0,c1⟩:=hE.all;exact bodyPost_ret (v:=.tuple #[.agg #[zL none 0 0,.bool false],zI 31]) (by simp [results,Tryz.results191,go_sem,c0,c1]) rfl ⟨hb,.inl ⟨HLM,HRR,rfl⟩⟩
             · have q12:decide ((12:Int)<(p.kp.length:Int)+(tl.length:Int))=false:=decide_eq_false (by omega)
               have q13:decide (12<p.kp.length+tl.length)=false:=decide_eq_false hlim;have hl12:p.kp.length+tl.length<=12:=by omega
               have HL12:=hd_ hl12;clear hlim;go_upto_region 20 with fail;go_quiet (fail)
               go_upto_region 22 with fail;have HSQ:=hd_ (HS9.ku (z48 wr nq));generalize wr.drewN nq=W9 at HSQ |-;clear y0 y1 b0 b1;have y0:=HSQ.out.box.c0;have b0:W9.cell? ad=some (.slice Ac tl.length cc):=(HSQ.low.cell HCE.2.2).trans HCE.1;have b1:W9.cell? ⟨ad.block,ad.off+1,none⟩=some (.bool tr):=(HSQ.low.cell (p:=⟨ad.block,ad.off+1,none⟩) HCE.2.2).trans HCE.2.1;have H1:Hid (∀ u∈tl.map Value.string,u.oneCell'=true):=hd_ (fun u hu=>by
                 obtain⟨b,-,rfl⟩:=ZD.1 hu;rfl)
               have HHS:Hid (w.heap.size<=W9.drew.heap.size):=hd_ HSQ.low.drew.size;refine wp_region_noPanic ?_;go_region_law (refine step_app rfl rfl zac (z0n HSQ.own ((Zb _ _).drew)) (by simp [Act.eval,Act.put]) (HL.kw HSQ.low.drew) (by simp [Act.eval,Act.put]) H1 (by omega) (by unfold maxLen;omega) HHS ?_;intro A6 c6 w6 hO6 hG6 hw6;have hbx:=Blk.grown (HSQ.out.ku ((Zb _ _).drew)).box hG6 (fun e=>HSQ.out.ne e.symm);have g0:w6.frozen? ⟨g11,0,none⟩=false:=zch.f0 hbx;have z0:w6.cell? ⟨g11,0,none⟩=some (.slice (some ⟨gt,0,none⟩) p.kp.length cv):=zch.c0 hbx)
               all_goals
                 refine NoPanic.normal ?_;have HP6:=hd_ ((HSQ.ku ((Zb _ _).drew)).app rfl hO6 hG6 hw6);clear hO6 hG6 hw6 hbx g0 z0 y0 b0 b1;generalize w6.setCell ⟨g11,0,none⟩ (zL A6 (p.kp.length+tl.length) c6)=W7 at HP6 |-;have hk:=‹∀(a:Act) (w:zW),Code.wp _ _ _ a w->_›;refine hk _ _ ?_;clear hk;have b0:W7.cell? ad=some (.slice Ac tl.length cc):=(HP6.low.cell HCE.2.2).trans HCE.1;have b1:W7.cell? ⟨ad.block,ad.off+1,none⟩=some (.bool tr):=(HP6.low.cell (p:=⟨ad.block,ad.off+1,none⟩) HCE.2.2).trans HCE.2.1;have y0:=HP6.out.box.c0;have y1:=HP6.out.box.c1;have f1:=HP6.out.box.f1;obtain⟨u0,u1,u2,u3⟩:=HP6.out.box4.all;have hne:¬(w.heap.size+1=g11):=by have:=HP6.out.le;omega
                 have hne2:¬(g11=w.heap.size+1):=by have:=HP6.out.le;omega
                 go_wp2_with fail;have hE:=zch.put (show zch (W7.setCell ⟨g11,1,none⟩ (.bool tr)) (w.heap.size+1) (zL none 0 0) false from Blk.far HP6.out.box4 (p:=⟨g11,1,none⟩) hne2 (.bool tr)) (zL A6 (p.kp.length+tl.length) c6) tr;have hb:=zci (HP6.out.low.setCell (p:=⟨g11,1,none⟩) (by show w.heap.size<=g11;have:=HP6.out.le;have:=HP6.out.le4;omega) (.bool tr)) (g:=w.heap.size+1) (by omega) (zL A6 (p.kp.length+tl.length) c6) (.bool tr)
                 have hO:=Row.of_own (z5c (z5c (z5c HP6.out.own (p:=⟨g11,1,none⟩) HP6.out.ne (.bool tr)) (p:=⟨w.heap.size+1,0,none⟩) HP6.out.ne4 (zL A6 (p.kp.length+tl.length) c6)) (p:=⟨w.heap.size+1,1,none⟩) HP6.out.ne4 (.bool tr));generalize ((W7.setCell ⟨g11,1,none⟩ (.bool tr)).setCell ⟨w.heap.size+1,0,none⟩ (zL A6 (p.kp.length+tl.length) c6)).setCell ⟨w.heap.size+1,1,none⟩ (.bool tr)=W8 at hE hb hO |-;obtain⟨-,-,c0,c1⟩:=hE.all;refine bodyPost_ret (v:=.tuple #[.agg #[zL A6 (p.kp.length+tl.length) c6,.bool tr],zI 0]) (by simp [results,Tryz.results191,go_sem,c0,c1]) rfl ⟨hb,.inr ⟨fun _=>HL12,A6,c6,rfl,fun x hx=>(HP6.own.lt x hx).1,?_⟩⟩
                 show Row W8 1 _ (zcl p.kp zs++tl).length _
                 rw[Zc,zia];exact hO)
