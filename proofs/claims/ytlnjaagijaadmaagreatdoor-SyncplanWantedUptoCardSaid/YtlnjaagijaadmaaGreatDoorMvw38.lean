/- A part. -/
import Derived.Test.YtlnjaagijaadmaaGreatDoorMvw32
import Derived.Test.YtlnjaagijaadmaaGreatDoorMvw34
set_option linter.unusedVariables false
set_option linter.unusedSimpArgs false
set_option maxHeartbeats 8000000
set_option maxRecDepth 100000
namespace Go.Proofs.YtlnjaagijaadmaaGreatDoor
open Go.Proofs.Tryz
open Go.RowKit
theorem zqp (b:Pat)(hs:List PatM)(A H:zP)(a c:Nat)(w:zW)(hb:zbx w (zL A b.kp.length a) b)(hh:HolesIn w (zL H hs.length c) hs)(hl:hs.length<=1000000):
  Calls prog 20 #[.agg #[zL A b.kp.length a,.bool b.kr,zL H hs.length c]] w fun e w'=>e=.returned (zI (zdf b hs))/\zB w w':=by
 have hB:=z0l w [zL A b.kp.length a,.bool b.kr,zL H hs.length c] 66;have hA:zB w (w.alloc (zC #[zL A b.kp.length a,.bool b.kr,zL H hs.length c] 66)):=zR;have HC:=hd_ (fun X (hX:zB w X)=>zd3 b A a X (hb.kw hX).1 hb.small);have HH:=hd_ hh;have HN1:=hd_ (@zdg b hs);have HN2:=hd_ (fun k=>@zdh b hs k);have HN3:=hd_ (@zdi b hs);clear hb hh;go_enter func20,ntmps20;go_upto_region 1 with fail;generalize w.alloc (zC #[zL A b.kp.length a,.bool b.kr,zL H hs.length c] 66)=W1 at hA hB |-;obtain⟨d0,d1⟩:=(⟨hB.cell 0,hB.cell 1⟩:W1.cell? ⟨w.heap.size,0,none⟩=some (.slice A b.kp.length a)/\W1.cell? ⟨w.heap.size,1,none⟩=some (.bool b.kr));have HB:=hd_ hB;have HA:=hd_ hA;have HC1:=hd_ (HC W1 hA);clear hA hB HC;obtain⟨pe,hpe⟩:∃ pe,z8w b=pe:=⟨_,rfl⟩;have HPE:=hd_ hpe;rw[hpe] at HC1;clear hpe;by_cases h0:pe=0
 case neg =>
  have q:(pe != 0)=true:=by simpa using h0
  have HR:=hd_ (HN1 (by rw[HPE.out];exact h0))
  clear h0;go_wp2_with fail;refine HC1.mono ?_;rintro e w2 ⟨rfl,hb⟩;have HB2:=hd_ (z0r HA hb);clear hb d0 d1;go_wp2_with fail;go_ret;exact⟨z91 HR.symm,HB2⟩
 subst h0;go_wp2_with fail;refine HC1.mono ?_;rintro e w2 ⟨rfl,hb⟩;have HA:=hd_ (z0r HA hb);have HB:=hd_ (HB.kw hb HB.lt);clear hb d0 d1 HC1;have d2:w2.cell? ⟨w.heap.size,2,none⟩=some (.slice H hs.length c):=HB.cell 2;go_wp2_with fail;go_loopw [12] (fun i wr=>∃ k:Nat,i=zI k/\k<=hs.length/\Hid ((∀ j (hj:j<hs.length),j<k->z8w hs[j].1=0)/\zB w2 wr)) (fun i _=>hs.length - (intOf i).toNat)
 exact⟨0,rfl,Zg _,hd_ ⟨fun j _ h=>by omega,Zb _ _⟩⟩
 obtain⟨k,rfl,hk,HI⟩:=hrel;clear d2;by_cases hlt:k<hs.length
 ·have HHX:=hd_ (HH.kw (z0r HA HI.2));obtain⟨ad,rfl,hab,s0,s1⟩:=HHX.out.at_ hlt;have HPK:=hd_ (HHX.2 hs[k] (Za hlt));have HNO:=hd_ (HN2 k HPE hlt);have HYE:Hid (z8w hs[k].1=0->∀ j (hj:j<hs.length),j<k+1->z8w hs[j].1=0):=hd_ (fun h j hj hjk=>by
   by_cases e:j=k
   ·subst e;exact h
   ·exact HI.1 j hj (by omega))
  generalize hs[k]=q at s0 s1 HPK HNO HYE;obtain⟨q,Aq,cq⟩:=q;change wr.cell? _=some (.slice Aq q.kp.length cq) at s0;change wr.cell? _=some (.bool q.kr) at s1;have hX:zB w2 (wr.alloc (zC #[zL Aq q.kp.length cq,.bool q.kr] 56)):=HI.2.alloc HI.2.size _;have hbq:zB wr (wr.alloc (zC #[zL Aq q.kp.length cq,.bool q.kr] 56)):=zR;have HCQ:=hd_ (zd3 q Aq cq (wr.alloc (zC #[zL Aq q.kp.length cq,.bool q.kr] 56)) (HPK.kw hbq).1 HPK.small);have HX:=hd_ hX;clear hab hX hbq;obtain⟨qe,hqe⟩:∃ qe,z8w q=qe:=⟨_,rfl⟩;have HQE:=hd_ hqe;rw[hqe] at HCQ;clear hqe;have HLT:=hd_ hlt;by_cases h1:qe=0
  ·subst h1;have HN:=hd_ (HYE HQE);go_wp2_with fail;refine HCQ.mono ?_;rintro e w4 ⟨rfl,hb⟩;have HB4:=hd_ (z0r HX hb);clear hb s0 s1;go_wp2_with fail;go_roundw
   exact⟨k+1,by go_num,by omega,hd_ ⟨HN,HB4⟩⟩
   simp [intOf];omega
  ·have hq:(qe != 0)=true:=by simpa using h1
   have HR:=hd_ (HNO (by show z8w q≠0;rw[HQE.out];exact h1))
   clear h1;go_wp2_with fail;refine HCQ.mono ?_;rintro e w4 ⟨rfl,hb⟩;have HB4:=hd_ (z0r HA (z0r HX hb));clear hb s0 s1;go_wp2_with fail;go_ret;exact⟨z91 HR.symm,HB4⟩
 ·have hke:k=hs.length:=by omega
  subst hke;have HE:=hd_ (HN3 HPE (fun j hj=>HI.1 j hj hj));have HBE:=hd_ (z0r HA HI.2);have d2:wr.cell? ⟨w.heap.size,2,none⟩=some (.slice H hs.length c):=(HB.kw HI.2 HB.lt).cell 2;have hge:¬((hs.length:Int)<(hs.length:Int)):=by omega
  by_cases h6:64<hs.length
  ·have q6:decide ((64:Int)<(hs.length:Int))=true:=by simp;omega
   have q7:(64:Int)<(hs.length:Int):=by omega
   have HR:=hd_ (HE.trans (if_pos h6));clear h6;go_wp2_with fail;go_ret;exact⟨z91 HR.symm,HBE⟩
  ·have q6:decide ((64:Int)<(hs.length:Int))=false:=by simp;omega
   have q7:¬(64:Int)<(hs.length:Int):=by omega
   have HR:=hd_ (HE.trans (if_neg h6));clear h6;go_wp2_with fail;go_ret;exact⟨z91 HR.symm,HBE⟩
theorem zqq (A B:zP)(n m a b:Nat)(x y:Bool)(h0:zV)(w:zW):Calls prog 19 #[.agg #[(zL A n a),(.bool x),(zL B m b),(.bool y),h0]] w fun e w'=>e=.returned (.agg #[.bool false,(zL A n a),(.bool x),(zL B m b),(.bool y)])/\zB w w':=by
 have hB:=z0l w [(zL A n a),(.bool x),(zL B m b),(.bool y),h0] 59;have hA:zB w (w.alloc (zC #[(zL A n a),(.bool x),(zL B m b),(.bool y),h0] 59)):=zR;go_enter func19,ntmps19;go_upto_region 1 with fail;have hZ:=z0l (w.alloc (zC #[(zL A n a),(.bool x),(zL B m b),(.bool y),h0] 59)) [.bool false,zL none 0 0,.bool false,zL none 0 0,.bool false] 62;rw[Zl] at hZ;have hB1:=hB.alloc (zC #[.bool false,zL none 0 0,.bool false,zL none 0 0,.bool false] 62);have hA1:=hA.alloc (by simp:w.heap.size<=_) (zC #[.bool false,zL none 0 0,.bool false,zL none 0 0,.bool false] 62)
 generalize (w.alloc (zC #[(zL A n a),(.bool x),(zL B m b),(.bool y),h0] 59)).alloc (zC #[.bool false,zL none 0 0,.bool false,zL none 0 0,.bool false] 62)=W1 at hZ hB1 hA1 |-;obtain⟨d0,d1,d2,d3⟩:=(⟨hB1.cell 0,hB1.cell 1,hB1.cell 2,hB1.cell 3⟩:W1.cell? ⟨w.heap.size,0,none⟩=some (.slice A n a)/\W1.cell? ⟨w.heap.size,1,none⟩=some (.bool x)/\W1.cell? ⟨w.heap.size,2,none⟩=some (.slice B m b)/\W1.cell? ⟨w.heap.size,3,none⟩=some (.bool y));obtain⟨z0,z1,z2,z3,z4⟩:=(⟨hZ.cell 0,hZ.cell 1,hZ.cell 2,hZ.cell 3,hZ.cell 4⟩:W1.cell? ⟨w.heap.size+1,0,none⟩=some (.bool false)/\W1.cell? ⟨w.heap.size+1,1,none⟩=some (.slice none 0 0)/\W1.cell? ⟨w.heap.size+1,2,none⟩=some (.bool false)/\W1.cell? ⟨w.heap.size+1,3,none⟩=some (.slice none 0 0)/\W1.cell? ⟨w.heap.size+1,4,none⟩=some (.bool false));obtain⟨y0,y1,y2,y3,y4⟩:=(⟨hZ.frozen 0,hZ.frozen 1,hZ.frozen 2,hZ.frozen 3,hZ.frozen 4⟩:W1.frozen? ⟨w.heap.size+1,0,none⟩=false/\W1.frozen? ⟨w.heap.size+1,1,none⟩=false/\W1.frozen? ⟨w.heap.size+1,2,none⟩=false/\W1.frozen? ⟨w.heap.size+1,3,none⟩=false/\W1.frozen? ⟨w.heap.size+1,4,none⟩=false);go_wp2_with fail;have hE:=((((hZ.set_ 0 (.bool false)).set_ 1 (zL A n a)).set_ 2 (.bool x)).set_ 3 (zL B m b)).set_ 4 (.bool y);have hb:=((((hA1.setCell (p:=⟨w.heap.size+1,0,none⟩) (by simp) (.bool false)).setCell (p:=⟨w.heap.size+1,1,none⟩) (by simp) (zL A n a)).setCell (p:=⟨w.heap.size+1,2,none⟩) (by simp) (.bool x)).setCell (p:=⟨w.heap.size+1,3,none⟩) (by simp) (zL B m b)).setCell (p:=⟨w.heap.size+1,4,none⟩) (by simp) (.bool y)
 generalize ((((W1.setCell ⟨w.heap.size+1,0,none⟩ (.bool false)).setCell ⟨w.heap.size+1,1,none⟩ (zL A n a)).setCell ⟨w.heap.size+1,2,none⟩ (.bool x)).setCell ⟨w.heap.size+1,3,none⟩ (zL B m b)).setCell ⟨w.heap.size+1,4,none⟩ (.bool y)=W3 at hE hb |-;have e0:=hE.cell 0;have e1:=hE.cell 1;have e2:=hE.cell 2;have e3:=hE.cell 3;have e4:=hE.cell 4;exact bodyPost_ret (v:=.agg #[.bool false,zL A n a,.bool x,zL B m b,.bool y]) (by simp [results,results19,go_sem,e0,e1,e2,e3,e4]) rfl ⟨rfl,hb⟩
theorem zqr (A H:zP)(n a k c:Nat)(x y:Bool)(r0:zV)(w:zW):Calls prog 21 #[.agg #[zL A n a,.bool x,r0,.bool y,zL H k c]] w fun e w'=>e=.returned (.agg #[zL A n a,.bool x,zL H k c])/\zB w w':=by
 have hB:=z0l w [zL A n a,.bool x,r0,.bool y,zL H k c] 59;have hA:zB w (w.alloc (zC #[zL A n a,.bool x,r0,.bool y,zL H k c] 59)):=zR;go_enter func21,ntmps21;go_upto_region 1 with fail;have hZ:=z0l (w.alloc (zC #[zL A n a,.bool x,r0,.bool y,zL H k c] 59)) [zL none 0 0,.bool false,zL none 0 0] 66;rw[Zl] at hZ;have hB1:=hB.alloc (zC #[zL none 0 0,.bool false,zL none 0 0] 66);have hA1:=hA.alloc (by simp:w.heap.size<=_) (zC #[zL none 0 0,.bool false,zL none 0 0] 66)
 generalize (w.alloc (zC #[zL A n a,.bool x,r0,.bool y,zL H k c] 59)).alloc (zC #[zL none 0 0,.bool false,zL none 0 0] 66)=W1 at hZ hB1 hA1 |-;obtain⟨d0,d1,d4⟩:=(⟨hB1.cell 0,hB1.cell 1,hB1.cell 4⟩:W1.cell? ⟨w.heap.size,0,none⟩=some (.slice A n a)/\W1.cell? ⟨w.heap.size,1,none⟩=some (.bool x)/\W1.cell? ⟨w.heap.size,4,none⟩=some (.slice H k c));obtain⟨z0,z1,z2⟩:=(⟨hZ.cell 0,hZ.cell 1,hZ.cell 2⟩:W1.cell? ⟨w.heap.size+1,0,none⟩=some (.slice none 0 0)/\W1.cell? ⟨w.heap.size+1,1,none⟩=some (.bool false)/\W1.cell? ⟨w.heap.size+1,2,none⟩=some (.slice none 0 0));obtain⟨y0,y1,y2⟩:=(⟨hZ.frozen 0,hZ.frozen 1,hZ.frozen 2⟩:W1.frozen? ⟨w.heap.size+1,0,none⟩=false/\W1.frozen? ⟨w.heap.size+1,1,none⟩=false/\W1.frozen? ⟨w.heap.size+1,2,none⟩=false);go_wp2_with fail;have hE:=((hZ.set_ 0 (zL A n a)).set_ 1 (.bool x)).set_ 2 (zL H k c);have hb:=((hA1.setCell (p:=⟨w.heap.size+1,0,none⟩) (by simp) (zL A n a)).setCell (p:=⟨w.heap.size+1,1,none⟩) (by simp) (.bool x)).setCell (p:=⟨w.heap.size+1,2,none⟩) (by simp) (zL H k c)
 generalize ((W1.setCell ⟨w.heap.size+1,0,none⟩ (zL A n a)).setCell ⟨w.heap.size+1,1,none⟩ (.bool x)).setCell ⟨w.heap.size+1,2,none⟩ (zL H k c)=W3 at hE hb |-;have e0:=hE.cell 0;have e1:=hE.cell 1;have e2:=hE.cell 2;exact bodyPost_ret (v:=.agg #[zL A n a,.bool x,zL H k c]) (by simp [results,results21,go_sem,e0,e1,e2]) rfl ⟨rfl,hb⟩
open Go.Sort (grow)
theorem rBindW (p q:Pat)(A B:zP)(a b:Nat)(w:zW)(hp:zbx w (zL A p.kp.length a) p)(hq:zbx w (zL B q.kp.length b) q)(hpe:z8w p=0)(hqe:z8w q=0)(hw:Wi q p):
  Calls prog 86 #[.agg #[zL A p.kp.length a,.bool p.kr],.agg #[zL B q.kp.length b,.bool q.kr]] w (zlb w p q):=by
 have hA:zB w ((w.alloc (zC #[zL A p.kp.length a,.bool p.kr] 56)).alloc (zC #[zL B q.kp.length b,.bool q.kr] 56)):=(zR).alloc (by simp) _
 have h2:zch ((w.alloc (zC #[zL A p.kp.length a,.bool p.kr] 56)).alloc (zC #[zL B q.kp.length b,.bool q.kr] 56)) w.heap.size (zL A p.kp.length a) p.kr:=(z0l w [zL A p.kp.length a,.bool p.kr] 56).alloc _;have h3:zch ((w.alloc (zC #[zL A p.kp.length a,.bool p.kr] 56)).alloc (zC #[zL B q.kp.length b,.bool q.kr] 56)) (w.heap.size+1) (zL B q.kp.length b) q.kr:=by
  have:=z0l (w.alloc (zC #[zL A p.kp.length a,.bool p.kr] 56)) [zL B q.kp.length b,.bool q.kr] 56;rw[Zl] at this;exact this
 have HWI:Hid (∀ X,zB w X->Calls prog 89 #[.agg #[zL B q.kp.length b,.bool q.kr],.agg #[zL A p.kp.length a,.bool p.kr]] X fun e w'=>e=.returned (.bool true)/\zB X w'):=hd_ (fun X hX=>(zs0 q p B A b a X (hq.kw hX) (hp.kw hX) hqe hpe).mono (by
  rintro e w' ⟨r,rfl,hr,hb⟩;exact⟨by rw[hr.2 hw],hb⟩))
 have HST:Hid (∀(k:Nat) (h:k<p.kp.length) X,Calls prog 85 #[zS p.kp[k]] X fun e w'=>e=.returned (.tuple #[zS (if z8r p.kp[k] then za5 p.kp[k] else z2r),.bool (z8r p.kp[k])])/\w'=X):=hd_ fun k h X=>by
  refine (zbg p.kp[k] X (hp.small _ (Za h))).mono ?_;rintro e w' ⟨rfl,rfl⟩;rw[zb4 (zd5 hpe h)];exact⟨rfl,rfl⟩
 have hle:=hw.le;have hq12:=zqh hqe;have HEX:Hid (∀(k:Nat) (h:k<p.kp.length) (h2:k<q.kp.length),z8r p.kp[k]=true->q.kp[k].extract 0 (q.kp[k].size - (za5 p.kp[k]).size)=zi4 p.kp[k] q.kp[k]/\(za5 p.kp[k]).size<=q.kp[k].size):=hd_ (fun k h h2 hs=>zs4 hs ((zid.1 hqe).ok _ (Za h2)) (hw.all k h));have HP:=hd_ hp;have HQ:=hd_ hq;have HLE:=hd_ hle;clear hp hq hpe hqe hw;go_enter func86,ntmps86;go_upto_region 1 with fail;generalize (w.alloc (zC #[zL A p.kp.length a,.bool p.kr] 56)).alloc (zC #[zL B q.kp.length b,.bool q.kr] 56)=W1 at hA h2 h3 |-;have x0:=h2.c0;have x1:=h2.c1;have y0:=h3.c0;have y1:=h3.c1;have H:=hd_ (Zi hA (Zi h2 h3));have HC1:=hd_ (HWI W1 hA);clear hA h2 h3;go_wp2_with fail;refine HC1.mono ?_;rintro e w2 ⟨rfl,hb⟩;dsimp only;have HB:=hd_ (z0r H.1 hb);have HG:=hd_ (Zi (H.out.2.1.low hb) (H.out.2.2.low hb));clear hb x0 x1 y0 y1;have x0:=HG.out.1.c0;go_wp2_with fail;clear x0;go_loopw [6,19] (fun v i wr=>∃(k:Nat) (bs:List PatM),i=zI k/\k<=p.kp.length/\bs.length<=k/\Hid (BrS w2 wr p q k bs v)) (fun _ i _=>p.kp.length - (intOf i).toNat)
 exact⟨0,[],rfl,Zg _,Zd _,hd_ ⟨LsS.zero _ _,rfl⟩⟩
 obtain⟨k,bs,rfl,hk,hbk,HI⟩:=hrel;by_cases hlt:k<p.kp.length
 ·have hlq:k<q.kp.length:=Zq hlt hle;have HBW:=hd_ (z0r HB HI.ls.low);obtain⟨ad,rfl,hab,s0⟩:=z20.at_ (HP.out.kw HBW.out).1 hlt;have HCI:=hd_ (HST k hlt wr);have HE1:=hd_ (HEX k hlt hlq);have HLT:=hd_ hlt;have HTK:=hd_ (zl8 p.kp q.kp k hlt hlq);have HSK:=hd_ (fun hs X hX=>HI.skip hlt hlq hs (wx:=X) hX);have hzx:=HP.out.2 p.kp[k] (Za hlt);generalize p.kp[k]=x at s0 HCI HE1 HTK HSK hzx;cases hst:z8r x with
  | false =>
   rw[hst] at HCI;have HN:=hd_ (HSK hst wr (Zb _ _));clear hst hab HTK HSK HE1;go_wp2_with fail;refine HCI.mono ?_;rintro e w4 ⟨rfl,rfl⟩;dsimp only;clear s0;go_wp2_with fail;go_roundw
   exact⟨k+1,bs,by go_num,by have:=HLT.out;omega,by omega,HN⟩
   have:=HLT.out;simp [intOf];omega
  | true =>
   rw[hst] at HCI;obtain⟨ad2,rfl,hab2,s1⟩:=z20.at_ (HQ.out.kw HBW.out).1 hlq;have HZY:=hd_ (HQ.2 q.kp[k] (Za hlq));have y0:=(HG.out.2.low HI.out.ls.low).c0;have hzq:(k:Int)<(q.kp.length:Int):=by omega
   generalize q.kp[k]=y at s1 HE1 HTK HZY;obtain⟨hxe,hxs⟩:=HE1.out hst;rw[hst,if_pos rfl] at HTK;clear hst hab hab2 HSK HE1;have HZS:=hd_ (Zf (zl9 x y) HZY);rw[<- hxe] at HTK HZS;rw[if_pos rfl] at HCI;have hsx:(za5 x).size<=x.size:=by unfold za5;rw[ByteArray.size_extract];omega
   clear hxe;generalize za5 x=sx at HCI hxs hsx HTK HZS;have hzy:=HZY.out;obtain⟨n,hn⟩:∃ n,y.size - sx.size=n:=⟨_,rfl⟩;rw[hn] at HTK HZS;have hz9:((y.size:Int) - (sx.size:Int))=(n:Int):=by omega
   have hw9:IntKind.i64.wrap ((y.size:Int) - (sx.size:Int))=(n:Int):=by rw[IntKind.wrap_i64];omega
   have hnc:n<=y.size:=by omega
   have hXA:zB wr ((wr.alloc (zC #[zS (y.extract 0 n)] 9)).alloc (zC #[zL (some ⟨wr.heap.size,0,none⟩) 1 1,.bool false] 213)):=(zR).alloc (by simp) _
   have HLS:=hd_ (HI.ls.ku hXA);have HPZ:Hid (zbx ((wr.alloc (zC #[zS (y.extract 0 n)] 9)).alloc (zC #[zL (some ⟨wr.heap.size,0,none⟩) 1 1,.bool false] 213)) (zL (some ⟨wr.heap.size,0,none⟩) 1 1) ⟨[y.extract 0 n],false⟩):=hd_ ⟨Row.kw (z0i wr [zS (y.extract 0 n)] 9 1 1 rfl (by decide) _ rfl) (zR),fun u hu=>by rw[Zm.1 hu];exact HZS⟩
   obtain⟨Av,cv,rfl⟩:=z0o HI.out.ls.own;have HNE:Hid ((zL Av bs.length cv).ownBlock≠some wr.heap.size/\w2.heap.size<=wr.heap.size):=hd_ ⟨fun e=>by have:=(HI.out.ls.own.lt _ e).2;omega,HI.ls.low.size⟩
   have HMP:=hd_ HI.mp;have hrow:=z0i (wr.alloc (zC #[zS (y.extract 0 n)] 9)) [zL (some ⟨wr.heap.size,0,none⟩) 1 1,.bool false] 213 2 1 rfl (by decide) (wr.heap.size+1) (by rw[Zl])
   have hsz:w2.heap.size<=((wr.alloc (zC #[zS (y.extract 0 n)] 9)).alloc (zC #[zL (some ⟨wr.heap.size,0,none⟩) 1 1,.bool false] 213)).heap.size:=HLS.out.low.size;have hbk12:bs.length<=12:=by omega
   have HNF:Hid (∀(h:0<(([y.extract 0 n]:List zA)).length),∀ x,(PatM.v (⟨[y.extract 0 n],false⟩,some ⟨wr.heap.size,0,none⟩,1)).ownBlock=some x->w2.heap.size<=x/\(zL Av bs.length cv).ownBlock≠some x):=hd_ (fun _ x hx=>by
    have e:wr.heap.size=x:=Option.some.inj hx;rw[<- e];exact⟨HNE.2,HNE.1⟩)
   clear hXA HI;go_wp2_with fail;refine HCI.mono ?_;rintro e w4 ⟨rfl,rfl⟩;dsimp only;clear s0;go_wp2_with (at_builtin;refine z0j rfl rfl zla HLS.own rfl hrow rfl (by simp [Value.oneCell']) (by omega) (by unfold maxLen;omega) hsz ?_;intro A9 c9 w9 hown hgr hob;have HP9:=hd_ (HLS.push (q:=(⟨[y.extract 0 n],false⟩,some ⟨w4.heap.size,0,none⟩,1)) HPZ HNF hown hgr hob);clear hown hgr hob)
   go_roundw
   exact⟨k+1,_,by go_num,by omega,by simp;omega,hd_ ⟨HP9,by rw[Zs,HMP.out,HTK.out,Zs];rfl⟩⟩
   have:=HLT.out;simp [intOf];omega
 ·have hke:k=p.kp.length:=by omega
  subst hke;have HBW:=hd_ (z0r HB HI.ls.low);have HG5:=hd_ (Zi (HG.out.1.low HI.out.ls.low) (HG.out.2.low HI.out.ls.low));obtain⟨Ab,cb,rfl⟩:=z0o HI.out.ls.own;have HMP:Hid (bs.map (·.1)=(zi7 p.kp q.kp).map (fun s=>⟨[s],false⟩)):=hd_ (by have:=HI.out.mp;rw[ZH] at this;exact this)
  cases hpr:p.kr with
  | false =>
   have x1:=HG5.out.1.c1;rw[hpr] at x1;have HPR:=hd_ hpr;clear hpr;go_wp2_with fail;go_ret2;exact⟨HBW,_,bs,rfl,by unfold zl6;rw[HPR.out,HMP.out];simp,HI.ls.holes⟩
  | true =>
   have HPB:=HG5.out.1;have x1:=HG5.out.1.c1;rw[hpr] at x1 HPB;have HPR:=hd_ hpr;clear hpr;go_upto_region 13 with fail;refine bdR13W _ (by kernel_rfl) _ w2 wr w.heap.size (w.heap.size+1) p.kp.length q.kp.length a b cb A B Ab q.kp q.kr bs HPB HG5.2 (HQ.kw HBW).1 rfl hle (by omega) HI.ls (by omega) HQ.2 ?_
   intro fh fj fk fm fp fq ft fu fv fw fx fy fA A' c' bs2 w5 HO;have HB6:=hd_ (z0r HB HO.1.low);clear x1;go_wp2_with fail;go_ret2;exact⟨HB6,_,bs2,rfl,by unfold zl6;rw[HO.out.2,HMP.out,HPR.out,if_pos rfl],HO.1.holes⟩
