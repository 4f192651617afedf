/- A part. -/
import Derived.Test.YtlnjaagijaadmaaGreatDoorMvw27
import Derived.Test.YtlnjaagijaadmaaGreatDoorMvw25
set_option linter.unusedVariables false
set_option linter.unusedSimpArgs false
set_option maxHeartbeats 8000000
set_option maxRecDepth 100000
namespace Go.Proofs.YtlnjaagijaadmaaGreatDoor
open Go.RowKit
def zls (B:Nat)(v:zV)(gs:List PatM):Prop:=(∀ x,v.ownBlock=some x->B<=x)/\∀ q∈gs,∀ x,q.v.ownBlock=some x->B<=x
theorem HolesIn.set_far {w:zW}{v:zV}{gs:List PatM}{B g:Nat}(h:HolesIn w v gs)(hf:zls B v gs)(hg:g<B)(i:Nat)(u:zV):HolesIn (w.setCell ⟨g,i,none⟩ u) v gs:=
 ⟨Row.set_far h.1 (fun e=>by have:=hf.1 _ e;omega),fun q hq=>⟨Row.set_far (h.2 q hq).1 (fun e=>by have:=hf.2 q hq _ e;omega),(h.2 q hq).2⟩⟩
def RtW (w:zW)(l r:Pat)(hs:List PatM)(rv:zV)(e:Ending)(w':zW):Prop:=zB w w'/\(((∃ q∈hs,zlq l r q.1)/\e=.returned (.tuple #[.agg #[zL none 0 0,.bool false,zL none 0 0],zI 72])) \/
 ((∀ q∈hs,¬ zlq l r q.1)/\∃(A:zP) (c:Nat) (gs:List PatM),e=.returned (.tuple #[.agg #[rv,.bool r.kr,zL A gs.length c],zI 0])/\gs.map (·.1)=zlr l r (hs.map (·.1))/\HolesIn w' (zL A gs.length c) gs/\zls w.heap.size (zL A gs.length c) gs))
theorem zlt (l r:Pat)(hs:List PatM)(q:PatM):zlr l r ((hs++[q]).map (·.1))=zlr l r (hs.map (·.1))++((zc6 l q.1).map (zif l r)).toList:=by
 unfold zlr;rw[Zs,List.filterMap_append];cases h:zc6 l q.1 <;> simp [h]
theorem zlu {w W:zW}{g:Nat}{v0 v1 v2:zV}(hB:zB w W)(hZ:Blk W g 66 [v0,v1,v2])(hg:w.heap.size<=g)(u0 u1 u2:zV):
  zB w (((W.setCell ⟨g,0,none⟩ u0).setCell ⟨g,1,none⟩ u1).setCell ⟨g,2,none⟩ u2)/\Blk (((W.setCell ⟨g,0,none⟩ u0).setCell ⟨g,1,none⟩ u1).setCell ⟨g,2,none⟩ u2) g 66 [u0,u1,u2]:=
 ⟨((hB.setCell (p:=⟨g,0,none⟩) hg u0).setCell (p:=⟨g,1,none⟩) hg u1).setCell (p:=⟨g,2,none⟩) hg u2,((hZ.set_ 0 u0).set_ 1 u1).set_ 2 u2⟩
theorem RgS.far {w wr:zW}{ce:List zV}{rv:zV}{rb:Bool}{v:zV}{gs:List PatM}(h:RgS w wr ce rv rb v gs)(u0 u1 u2:zV):HolesIn (((wr.setCell ⟨w.heap.size+1,0,none⟩ u0).setCell ⟨w.heap.size+1,1,none⟩ u1).setCell ⟨w.heap.size+1,2,none⟩ u2) v gs:=by
 have n1:v.ownBlock≠some (w.heap.size+1):=fun e=>by have:=(h.st.own.lt _ e).1;omega
 refine⟨Row.set_far (Row.set_far (Row.set_far (Row.of_own h.st.own) n1) n1) n1,fun q hq=>?_⟩;have n2:q.v.ownBlock≠some (w.heap.size+1):=fun e=>by have:=((h.fr q hq).2 _ e).1;omega
 exact⟨Row.set_far (Row.set_far (Row.set_far (h.pat q hq).1 n2) n2) n2,(h.pat q hq).2⟩
theorem rightW (l r:Pat)(hs:List PatM)(A C H:zP)(a c hc:Nat)(w:zW)(hl:zbx w (zL A l.kp.length a) l)(hr:zbx w (zL C r.kp.length c) r)(hh:HolesIn w (zL H hs.length hc) hs)(hn:hs.length<=1000)(hru:zbw l r=0)(hhe:∀ q∈hs,z8w q.1=0)(hsz:∀ q∈hs,∀ m,zc6 l q.1=some m->∀ x∈(zif l r m).kp,x.size<=30000000):
  Calls Tryz.prog 47 #[.agg #[zL A l.kp.length a,.bool l.kr,zL C r.kp.length c,.bool r.kr,zL H hs.length hc]] w (RtW w l r hs (zL C r.kp.length c)):=by
 obtain⟨W1,hW1⟩:∃ W,W=(w.alloc (zC #[zL A l.kp.length a,.bool l.kr,zL C r.kp.length c,.bool r.kr,zL H hs.length hc] 59)).alloc (zC #[zL none 0 0,.bool false,zL none 0 0] 66):=⟨_,rfl⟩;have hA:zB w W1:=by rw[hW1];exact (zR).alloc (by simp) _
 have h1:Blk W1 w.heap.size 59 [zL A l.kp.length a,.bool l.kr,zL C r.kp.length c,.bool r.kr,zL H hs.length hc]:=by rw[hW1];exact (z0l w _ _).alloc _
 have h2:Blk W1 (w.heap.size+1) 66 [zL none 0 0,.bool false,zL none 0 0]:=by
  rw[hW1];have:=z0l (w.alloc (zC #[zL A l.kp.length a,.bool l.kr,zL C r.kp.length c,.bool r.kr,zL H hs.length hc] 59)) [zL none 0 0,.bool false,zL none 0 0] 66;simp only[Zl] at this
  exact this
 have hs1:W1.heap.size=w.heap.size+1+1:=by rw[hW1];simp
 have HS:Hid (RgS w (W1.alloc (zC #[zL C r.kp.length c,.bool r.kr,zL none 0 0] 66)) [zL A l.kp.length a,.bool l.kr,zL C r.kp.length c,.bool r.kr,zL H hs.length hc] (zL C r.kp.length c) r.kr (zL none 0 0) []):=hd_ (by
  refine⟨⟨hA.alloc hA.size _,h1.alloc _,h2.alloc _,?_,Zv _ _ _ _⟩,fun q hq=>absurd hq ZO,fun q hq=>absurd hq ZO⟩;have:=z0l W1 [zL C r.kp.length c,.bool r.kr,zL none 0 0] 66;rw[hs1] at this;exact this)
 obtain⟨y2,y3⟩:=(⟨h1.cell 2,h1.cell 3⟩:W1.cell? ⟨w.heap.size,2,none⟩=some (.slice C r.kp.length c)/\W1.cell? ⟨w.heap.size,3,none⟩=some (.bool r.kr));have HL:=hd_ hl;have HR:=hd_ hr;have HH:=hd_ hh;have HNN:=hd_ (Zi hhe hsz);have HRU:=hd_ hru;have HRP:Hid (0<r.kp.length):=hd_ (zid.1 (zlh hru).2.1).pos;have HW1:=hd_ hW1;have HS1:=hd_ hs1;clear hl hr hh hru hhe hsz hW1 hA h1 h2 hs1;go_enter Tryz.func47,Tryz.ntmps47;go_upto_region 1 with fail;rw[<- HW1.out];go_upto_region 2 with fail;rw[HS1.out];generalize W1.alloc (zC #[zL C r.kp.length c,.bool r.kr,zL none 0 0] 66)=W3 at HS |-;clear y2 y3;have y4:W3.cell? ⟨w.heap.size,4,none⟩=some (.slice H hs.length hc):=HS.st.ent.cell 4;go_wp2_with fail;go_loopw [16] (fun i wr=>∃(k:Nat) (v:zV) (gs:List PatM),i=zI k/\k<=hs.length/\gs.length<=k/\Hid (RgS w wr [zL A l.kp.length a,.bool l.kr,zL C r.kp.length c,.bool r.kr,zL H hs.length hc] (zL C r.kp.length c) r.kr v gs/\gs.map (·.1)=zlr l r ((hs.take k).map (·.1))/\∀ q∈hs.take k,¬ zlq l r q.1)) (fun i _=>hs.length - (intOf i).toNat)
 exact⟨0,_,_,rfl,Zg _,Zd _,hd_ ⟨HS,rfl,fun q hq=>by simp at hq⟩⟩
 obtain⟨k,v,gs,rfl,hk,hnk,HJ⟩:=hrel;have HI:=hd_ HJ.1;clear y4 HS;by_cases hlt:k<hs.length
 ·have HHX:=hd_ (HH.kw HI.st.low);obtain⟨ad,rfl,hab,s0,s1⟩:=HHX.out.at_ hlt;have HPK:=hd_ (HHX.2 hs[k] (Za hlt));have HHE:=hd_ (HNN.1 hs[k] (Za hlt));have HSZ:=hd_ (HNN.2 hs[k] (Za hlt));have HTK:Hid (hs.take (k+1)=hs.take k++[hs[k]]):=hd_ (by rw[Zr hlt])
  have HMEM:=hd_ (Za hlt);generalize hs[k]=q at s0 s1 HPK HHE HSZ HTK HMEM;obtain⟨q,Aq,cq⟩:=q;change wr.cell? _=some (.slice Aq q.kp.length cq) at s0;change wr.cell? _=some (.bool q.kr) at s1;have HX:=hd_ (HI.ku ((Zb wr.heap.size wr).alloc (Zd _) (zC #[zL Aq q.kp.length cq,.bool q.kr] 56)));have HB6:Hid (zch (wr.alloc (zC #[zL Aq q.kp.length cq,.bool q.kr] 56)) wr.heap.size (zL Aq q.kp.length cq) q.kr):=hd_ (z0l wr [zL Aq q.kp.length cq,.bool q.kr] _);have HPQ:Hid (zbx (wr.alloc (zC #[zL Aq q.kp.length cq,.bool q.kr] 56)) (zL Aq q.kp.length cq) q):=hd_ (zbx.kw HPK ((Zb wr.heap.size wr).alloc (Zd _) _));clear hab;have HLT:=hd_ hlt;go_upto_region 5 with fail;generalize wr.alloc (zC #[zL Aq q.kp.length cq,.bool q.kr] 56)=W6 at HX HB6 HPQ |-;generalize wr.heap.size=g6 at HB6 |-;clear s0 s1;refine rtR5W _ (by kernel_rfl) _ l r q A Aq C (some ad) a cq c hs.length hc w.heap.size g6 W6 HX.st.ent HB6 (HL.kw HX.st.low) HPQ (HR.kw HX.st.low) HRU HHE HSZ ?_
  intro eA eB eC eD eE eF eG eH g7 C' k' c' br ok err w' hb' hc3 hc4 hg7 hne hfr;have HX7:=hd_ (HX.ku hb');obtain⟨Av,cv,rfl⟩:=z0o HX.out.st.own;rcases hne with⟨rfl,rfl,hm⟩ | ⟨rfl,rfl,m,hm,hlm⟩ | ⟨rfl,rfl,m,hm,hlm,rfl,rfl,hpc⟩
  ·have HM:=hd_ hm;clear hb' hc3 hc4 hg7 hfr hm;go_wp2_with fail;go_roundw
   case rel=>exact⟨k+1,_,gs,by go_num,by omega,by omega,hd_ ⟨HX7,by rw[HJ.out.2.1,HTK.out,zlt,HM.out];simp,fun q' hq'=>by
    rw[HTK.out] at hq';rcases Zy.1 hq' with h1 | h1
    ·exact HJ.2.2 q' h1
    ·rw[Zm.1 h1];rintro⟨m,h2,-⟩;rw[HM.out] at h2;cases h2⟩⟩
   case measure=>simp [intOf];omega
  ·have HM:=hd_ (show zlq l r q from ⟨m,hm,hlm⟩);clear hb' hc3 hc4 hg7 hfr hm hlm;obtain⟨z0,z1,z2⟩:=(⟨HX7.out.st.res.cell 0,HX7.out.st.res.cell 1,HX7.out.st.res.cell 2⟩:w'.cell? ⟨w.heap.size+1,0,none⟩=some (.slice none 0 0)/\w'.cell? ⟨w.heap.size+1,1,none⟩=some (.bool false)/\w'.cell? ⟨w.heap.size+1,2,none⟩=some (.slice none 0 0));obtain⟨f0,f1,f2⟩:=(⟨HX7.out.st.res.frozen 0,HX7.out.st.res.frozen 1,HX7.out.st.res.frozen 2⟩:w'.frozen? ⟨w.heap.size+1,0,none⟩=false/\w'.frozen? ⟨w.heap.size+1,1,none⟩=false/\w'.frozen? ⟨w.heap.size+1,2,none⟩=false);go_wp2_with fail;obtain⟨hb,hE⟩:=zlu HX7.out.st.low HX7.out.st.res (by omega) (zL none 0 0) (.bool false) (zL none 0 0)
   generalize ((w'.setCell ⟨w.heap.size+1,0,none⟩ (zL none 0 0)).setCell ⟨w.heap.size+1,1,none⟩ (.bool false)).setCell ⟨w.heap.size+1,2,none⟩ (zL none 0 0)=W8 at hE hb |-;have e0:=hE.cell 0;have e1:=hE.cell 1;have e2:=hE.cell 2;exact bodyPost_ret (v:=.tuple #[.agg #[zL none 0 0,.bool false,zL none 0 0],zI 72]) (by simp [results,Tryz.results47,go_sem,e0,e1,e2]) rfl ⟨hb,.inl ⟨⟨_,HMEM,HM⟩,rfl⟩⟩
  ·have HM:=hd_ hm;have HLM:=hd_ hlm;have HPC:=hd_ hpc;have HFR:Hid (∀ x,(zL C' (zif l r m).kp.length c').ownBlock=some x->w.heap.size+1+1<x/\(zL Av gs.length cv).ownBlock≠some x):=hd_ fun x hx=>by
    have h1:=hfr rfl x hx;have h2:=HX.out.st.box.lt;exact⟨by omega,fun e=>by have:=(HX.out.st.own.lt x e).2;omega⟩
   have z2:w'.cell? ⟨w.heap.size+1+1,2,none⟩=some (.slice Av gs.length cv):=HX7.st.box.cell 2;clear hb' hg7 hfr hm hlm hpc;have HRL:Hid (0<(zif l r m).kp.length):=hd_ (by have h1:(zif l r m).kp.length=_:=Zc;rw[h1,zia];have:=HRP.out;omega)
   generalize hP:zif l r m=P at hc3 hc4 HPC HFR HRL |-;have HPP:=hd_ hP;clear hP;have hba:zB w' (w'.alloc (zC #[zL C' P.kp.length c',.bool P.kr] 56)):=(Zb w'.heap.size w').alloc (Zd _) _;have HX8:=hd_ (HX7.ku hba);have HPC8:=hd_ (HPC.kw hba);clear hba;have hrow:=z0i w' [zL C' P.kp.length c',.bool P.kr] 56 2 1 rfl (by decide) _ rfl
   have hsz:w.heap.size+1+1+1<=(w'.alloc (zC #[zL C' P.kp.length c',.bool P.kr] 56)).heap.size:=by have:=HX7.out.st.box.lt;simp;omega
   go_wp2_with (at_builtin;refine z0j rfl rfl zlm HX8.st.own rfl hrow rfl (by simp [Value.oneCell']) (by omega) (by unfold maxLen;omega) hsz ?_;intro A9 c9 w9 hown hgr hob;have HP:=hd_ (HX8.push (q:=(P,C',c')) HPC8 HRL HFR hown hgr hob);have hbw:=Blk.grown HX8.out.st.box hgr (fun e=>by have:=(HX8.out.st.own.lt _ e.symm).1;omega);have hfz:=hbw.frozen 2;have hcl:w9.cell? ⟨w.heap.size+1+1,2,none⟩=some (.slice Av gs.length cv):=hbw.cell 2)
   go_roundw
   case rel=>exact⟨k+1,_,_,by go_num,by omega,by simp;omega,hd_ ⟨HP,by rw[Zs,HJ.out.2.1,HTK.out,zlt,HM.out,HPP.out.symm];simp,fun q' hq'=>by
    rw[HTK.out] at hq';rcases Zy.1 hq' with h1 | h1
    ·exact HJ.2.2 q' h1
    ·rw[Zm.1 h1];rintro⟨m',h2,h3⟩;rw[HM.out] at h2;cases h2;exact HLM h3⟩⟩
   case measure=>simp [intOf];omega
 ·have hke:k=hs.length:=by omega
  subst hke;obtain⟨Av,cv,rfl⟩:=z0o HI.out.st.own;obtain⟨d0,d1,d2⟩:=(⟨HI.out.st.box.cell 0,HI.out.st.box.cell 1,HI.out.st.box.cell 2⟩:wr.cell? ⟨w.heap.size+1+1,0,none⟩=some (.slice C r.kp.length c)/\wr.cell? ⟨w.heap.size+1+1,1,none⟩=some (.bool r.kr)/\wr.cell? ⟨w.heap.size+1+1,2,none⟩=some (.slice Av gs.length cv));obtain⟨z0,z1,z2⟩:=(⟨HI.out.st.res.cell 0,HI.out.st.res.cell 1,HI.out.st.res.cell 2⟩:wr.cell? ⟨w.heap.size+1,0,none⟩=some (.slice none 0 0)/\wr.cell? ⟨w.heap.size+1,1,none⟩=some (.bool false)/\wr.cell? ⟨w.heap.size+1,2,none⟩=some (.slice none 0 0));obtain⟨f0,f1,f2⟩:=(⟨HI.out.st.res.frozen 0,HI.out.st.res.frozen 1,HI.out.st.res.frozen 2⟩:wr.frozen? ⟨w.heap.size+1,0,none⟩=false/\wr.frozen? ⟨w.heap.size+1,1,none⟩=false/\wr.frozen? ⟨w.heap.size+1,2,none⟩=false);have hge:¬((hs.length:Int)<(hs.length:Int)):=by omega
  go_wp2_with fail;obtain⟨hb,hE⟩:=zlu HI.out.st.low HI.out.st.res (by omega) (zL C r.kp.length c) (.bool r.kr) (zL Av gs.length cv)
  have hHo:=HI.out.far (zL C r.kp.length c) (.bool r.kr) (zL Av gs.length cv);generalize ((wr.setCell ⟨w.heap.size+1,0,none⟩ (zL C r.kp.length c)).setCell ⟨w.heap.size+1,1,none⟩ (.bool r.kr)).setCell ⟨w.heap.size+1,2,none⟩ (zL Av gs.length cv)=W8 at hE hb hHo |-;have e0:=hE.cell 0;have e1:=hE.cell 1;have e2:=hE.cell 2;exact bodyPost_ret (v:=.tuple #[.agg #[zL C r.kp.length c,.bool r.kr,zL Av gs.length cv],zI 0]) (by simp [results,Tryz.results47,go_sem,e0,e1,e2]) rfl ⟨hb,.inr ⟨fun q hq=>HJ.2.2 q (by rw[ZH];exact hq),Av,cv,gs,rfl,by have:=HJ.out.2.1;rw[ZH] at this;exact this,hHo,fun x hx=>by have:=(HI.out.st.own.lt x hx).1;omega,fun q hq x hx=>by have:=((HI.out.fr q hq).2 x hx).1;omega⟩⟩
open Go.Sort (grow)
section
variable {u0 u1 u2 u3 u4 u5 u6 u7 u8 u9 gF gG gH gI gJ gK gL gM gN gO gP gQ gR gT gV gW gX gY gZ i6 i7 i8 ia ib ic ie ig ii ij ik il im io ip iq ir iu iv iw iy iz iA iB iC iD iE iF iG iH iI iJ iK iL iM iN : zV}
theorem zs4 {x y:zA}(hx:z8r x=true)(hy:okS y)(hw:zbl y x=true):y.extract 0 (y.size - (za5 x).size)=zi4 x y/\(za5 x).size<=y.size:=by
 obtain⟨-,h⟩:=zi6 hx hy hw;have h2:(za5 x).data.toList.length<=y.data.toList.length:=by rw[h,Zc];omega
 refine⟨z1s ?_,h2⟩;have h3:=zb8 x y;unfold zaz at h3;rw[h3,h,Zc,Nat.add_sub_cancel,List.take_left]
structure BrS (w2 wr:zW)(p q:Pat)(k:Nat)(bs:List PatM)(v:zV):Prop where
 ls:LsS 213 w2 wr v bs
 mp:bs.map (·.1)=(zi7 (p.kp.take k) q.kp).map (fun s=>⟨[s],false⟩)
theorem BrS.skip {w2 wr wx:zW}{p q:Pat}{k:Nat}{bs:List PatM}{v:zV}(h:BrS w2 wr p q k bs v)(hk:k<p.kp.length)(hq:k<q.kp.length)(hs:z8r p.kp[k]=false)(hb:zB wr wx):BrS w2 wx p q (k+1) bs v:=
 ⟨h.ls.ku hb,by rw[h.mp,zl8 _ _ _ hk hq,hs];simp⟩
theorem bdR13W (ops:Array Oper)(hops:Tryz.f86.body.bind (z0w 13)=some ops)(Q:Exit->Act->zW->Prop)(W V:zW)(gp gq np nq a b cb:Nat)(A B Ab:zP)(l:List zA)(br:Bool)(bs:List PatM)
  (hP:zch V gp (zL A np a) true) (hQB:zch V gq (zL B nq b) br) (hS:z20 V (zL B nq b) l) (hl:l.length=nq) (hn:np<=nq) (hb:nq<=1000) (hI:LsS 213 W V (zL Ab bs.length cb) bs) (hk:bs.length<=12) (hz:∀ x∈l,x.size<=30000000)
  (hQ:∀(fh fj fk fm fp fq ft fu fv fw fx fy fA:zV) (A':zP) (c':Nat) (bs2:List PatM) (w':zW),Hid (LsS 213 W w' (zL A' bs2.length c') bs2/\bs2.map (·.1)=bs.map (·.1)++[⟨l.drop np,br⟩])->Q .normal ⟨#[u0,u1,.pointer (some ⟨gp,0,none⟩),.pointer (some ⟨gq,0,none⟩),u4,u5,zL A' bs2.length c',u7,u8,u9,gF,gG,gH,gI,gJ,gK,gL,gM,gN,gO,gP,gQ,gR,gT,gV,gW,gX,gY,gZ,i6,i7,i8,ia,ib,ic,ie,ig,ii,ij,ik,il,im,io,ip,iq,ir,iu,iv,iw,iy,iz,fh,fj,fk,fm,fp,fq,ft,fu,fv,fw,fx,fy,fA,iN],[]⟩ w'):
  (Code.region 13 ops true).wp Tryz.prog Q ⟨#[u0,u1,.pointer (some ⟨gp,0,none⟩),.pointer (some ⟨gq,0,none⟩),u4,u5,zL Ab bs.length cb,u7,u8,u9,gF,gG,gH,gI,gJ,gK,gL,gM,gN,gO,gP,gQ,gR,gT,gV,gW,gX,gY,gZ,i6,i7,i8,ia,ib,ic,ie,ig,ii,ij,ik,il,im,io,ip,iq,ir,iu,iv,iw,iy,iz,iA,iB,iC,iD,iE,iF,iG,iH,iI,iJ,iK,iL,iM,iN],[]⟩ V:=by
 simp only[Tryz.f86,Zp,z0w] at hops
 simp at hops
 subst hops;subst hl;obtain⟨Af,cf,hsl,hrw⟩:=zpa (P:=Tryz.prog) (w:=V) Tryz.underlying29 zcr hS hn;have HQ:=hd_ hQ;have HROW:Hid (∀ W,zB V W->Row W 1 (zL Af (l.length - np) cf) (l.length - np) ((l.drop np).map .string)):=hd_ fun W hW=>by
  have:=hrw W (z20.kw hS hW);rw[Nat.mul_one,<- List.map_drop] at this;exact this
 have HONE:Hid (∀ v∈(l.drop np).map Value.string,v.oneCell'=true):=hd_ (fun v hv=>by obtain⟨x,-,rfl⟩:=ZD.1 hv;rfl)
 have HF:Hid (∀ w',zB V w'->w'.cell? ⟨gp,0,none⟩=some (.slice A np a)/\w'.cell? ⟨gq,0,none⟩=some (.slice B l.length b)/\w'.cell? ⟨gq,1,none⟩=some (.bool br)):=hd_ fun w' hw=>⟨(hP.low hw).c0,(hQB.low hw).c0,(hQB.low hw).c1⟩;have HLD:Hid ((l.drop np).length=l.length - np):=hd_ (Zu);have HI:=hd_ hI;have HWV:Hid (W.heap.size<=V.heap.size):=hd_ hI.low.size;have HZ:Hid (∀ x∈l.drop np,x.size<=30000000):=hd_ (fun x hx=>hz x (ZW hx));clear hQ hP hQB hrw hS hI hz;obtain⟨f0,f1,f2⟩:=HF.out V (Zb _ _);refine wp_region_noPanic ?_;go_region_law (first
   | (refine step_app (base:=V.heap.size) (n:=0) (xs:=[]) rfl rfl strElem (Zv _ _ _ _) (by simp [Act.eval,Act.put];done) (HROW _ (Zb _ _).drew) (by simp [Act.eval,Act.put];done) HONE (by omega) (by unfold maxLen;omega) (by simp) ?_;intro A5 c5 w5 hO5 hG5 hw5;have hX5:=below_nogrow2 hG5 rfl;have hS5:zB V w5:=(Zb _ _).drew.trans hX5;obtain⟨f5,f6,f7⟩:=HF.out w5 hS5;rw[ZV,Yc] at hO5;have HI5:=hd_ (HI.ku (z0r hS5 ((Zb w5.heap.size w5).alloc (Zd _) (zC #[zL A5 (l.length - np) c5,.bool br] 213))));have HW5:W.heap.size<=(w5.alloc (zC #[zL A5 (l.length - np) c5,.bool br] 213)).heap.size:=(by have:=HWV.out;have:=hS5.size;simp;omega))
   | (refine step_app (base:=W.heap.size) rfl rfl zla HI5.own (by simp [Act.eval,Act.put];done) (z0i w5 [zL A5 (l.length - np) c5,.bool br] _ 2 1 rfl (by decide) _ rfl) (by simp [Act.eval,Act.put];done) (by simp [Value.oneCell']) (by omega) (by unfold maxLen;omega) HW5 ?_;intro A6 c6 w6 hO6 hG6 hw6))
 all_goals
  refine NoPanic.normal ?_;have hT6:Row (w5.alloc (zC #[zL A5 (l.length - np) c5,.bool br] 213)) 1 (zL A5 (l.length - np) c5) (l.length - np) ((l.drop np).map .string):=Row.of_own (z0n hO5 (zR));have hb5:∀ x,(zL A5 (l.length - np) c5).ownBlock=some x->V.heap.size<=x:=fun x hx=>(hO5.lt x hx).1;have hbv:∀ x,(zL Ab bs.length cb).ownBlock=some x->x<V.heap.size:=fun x hx=>(HI.own.lt x hx).2;have hp:=HI5.out.push (q:=(⟨l.drop np,br⟩,A5,c5)) ⟨by unfold PatM.v z20;rw[HLD.out];exact hT6,HZ⟩ (fun _ x hx=>by
   unfold PatM.v at hx;rw[HLD.out] at hx;have h1:=hb5 x hx;refine⟨Zf HWV h1,fun e=>?_⟩;have h2:=hbv x e;omega) (by unfold PatM.cells PatM.v;rw[HLD.out];exact hO6) ⟨hG6.os,hG6.tape,hG6.output,hG6.size,hG6.block⟩ hw6
  have HPP:=hd_ hp;clear hp hT6 hb5 hbv hO5 hO6 hG6 hw6 hG5 hw5;have e9:(zL A6 (bs.length+1) c6)=zL A6 (bs++[((⟨l.drop np,br⟩,A5,c5):PatM)]).length c6:=by rw[Zc];rfl
  rw[e9];refine HQ _ _ _ _ _ _ _ _ _ _ _ _ _ A6 c6 _ _ (hd_ ⟨?_,by rw[Zs];rfl⟩)
  rw[<- e9];exact HPP
end
section
variable {u0 u1 u2 u3 u4 u5 u6 u7 u8 u9 gF gG gH gI gJ gK gL gM gN gO gP gQ gR gT gV gW gX gY gZ i6 i7 i8 ia ib ic ie ig ii ij ik il im io ip iq ir iu iv iw iy iz iA iB iC iD iE iF iG iH iI iJ iK iL iM iN iO iP iQ iR iS iT iU iV iW iX iY iZ j0 j1 j2 j9 jb jd je jf jg jh ji jj jk jl jm jn jo jp jq jr js jt ju bB bD bE bF bG bH bI bJ bK bL bM bN bO bP bQ bT bU bV bW bX bY bZ : zV}
theorem smR13 (ops:Array Oper)(hops:Tryz.f43.body.bind (z0w 13)=some ops)(Q:Exit->Act->zW->Prop)(V:zW)(g n c k ct cu:Nat)(At Au:zP)(t u:Pat)
  (hc0:V.cell? ⟨g,(k+1) * 2,none⟩=some (.slice At t.kp.length ct)) (hc1:V.cell? ⟨g,(k+1) * 2+1,none⟩=some (.bool t.kr)) (hd0:V.cell? ⟨g,k * 2,none⟩=some (.slice Au u.kp.length cu)) (hd1:V.cell? ⟨g,k * 2+1,none⟩=some (.bool u.kr))
  (ht:zbx V (zL At t.kp.length ct) t) (hu:zbx V (zL Au u.kp.length cu) u) (ht0:0<t.kp.length) (hu0:0<u.kp.length) (ht12:t.kp.length<=12) (hu12:u.kp.length<=12) (hk:k+1<n) (hn:n<=1000)
  (hQ:∀(eW eX eY eZ fa fd fe ff fg fh fj fk fm fp fq:zV) (b:Bool) (w':zW),zB V w'->Q .normal ⟨#[u0,u1,u2,u3,u4,zL (some ⟨g,0,none⟩) n c,u6,u7,u8,u9,gF,zI ((k:Int)+1),gH,gI,gJ,gK,gL,gM,gN,gO,gP,gQ,gR,gT,gV,gW,gX,gY,gZ,i6,i7,i8,ia,ib,ic,ie,ig,ii,ij,ik,il,im,eW,eX,eY,eZ,fa,fd,fe,ff,fg,fh,fj,fk,fm,fp,fq,.bool b,iH,iI,iJ,iK,iL,iM,iN,iO,iP,iQ,iR,iS,iT,iU,iV,iW,iX,iY,iZ,j0,j1,j2,j9,jb,jd,je,jf,jg,jh,ji,jj,jk,jl,jm,jn,jo,jp,jq,jr,js,jt,ju,bB,bD,bE,bF,bG,bH,bI,bJ,bK,bL,bM,bN,bO,bP,bQ,bT,bU,bV,bW,bX,bY,bZ],[]⟩ w'):
  (Code.region 13 ops true).wp Tryz.prog Q ⟨#[u0,u1,u2,u3,u4,zL (some ⟨g,0,none⟩) n c,u6,u7,u8,u9,gF,zI ((k:Int)+1),gH,gI,gJ,gK,gL,gM,gN,gO,gP,gQ,gR,gT,gV,gW,gX,gY,gZ,i6,i7,i8,ia,ib,ic,ie,ig,ii,ij,ik,il,im,io,ip,iq,ir,iu,iv,iw,iy,iz,iA,iB,iC,iD,iE,iF,iG,iH,iI,iJ,iK,iL,iM,iN,iO,iP,iQ,iR,iS,iT,iU,iV,iW,iX,iY,iZ,j0,j1,j2,j9,jb,jd,je,jf,jg,jh,ji,jj,jk,jl,jm,jn,jo,jp,jq,jr,js,jt,ju,bB,bD,bE,bF,bG,bH,bI,bJ,bK,bL,bM,bN,bO,bP,bQ,bT,bU,bV,bW,bX,bY,bZ],[]⟩ V:=by
 simp only[Tryz.f43,Zp,z0w] at hops
 simp at hops
 subst hops;have cT:∀ d os,Calls Tryz.prog 88 #[.agg #[zL At t.kp.length ct,.bool t.kr]] (grow (redrawn V d) os) fun e w''=>e=.returned (zS (zsb t))/\∃ p:Regrown,w''=grow (redrawn V p.d) p.os:=fun d os=>Calls.regrown_of (rTextW t At ct _ (ht.kw (below_regrown V d os)) ht0 ht12);have cU:∀ d os,Calls Tryz.prog 88 #[.agg #[zL Au u.kp.length cu,.bool u.kr]] (grow (redrawn V d) os) fun e w''=>e=.returned (zS (zsb u))/\∃ p:Regrown,w''=grow (redrawn V p.d) p.os:=fun d os=>Calls.regrown_of (rTextW u Au cu _ (hu.kw (below_regrown V d os)) hu0 hu12);have x0:=cell_regrown hc0;have x1:=cell_regrown hc1;have y0:=cell_regrown hd0;have y1:=cell_regrown hd1;have hz1:(k:Int)+1<(n:Int):=by omega
 have hz2:(k:Int)<(n:Int):=by omega
 have hz3:(0:Int)<(k:Int)+1:=by omega
 have hz4:(k:Int)+1 - 1=(k:Int):=by omega
 have hz5:IntKind.i64.wrap ((k:Int)+1 - 1)=(k:Int):=by rw[IntKind.wrap_i64];omega
 have HQ:=hd_ hQ;clear hQ ht hu hc0 hc1 hd0 hd1;refine wp_region_quiet_below (by kernel_rfl) (by kernel_rfl) ?_
 repeat (first | go_big_quiet_step (fail) | quiet_step (fail))
 (first | go_big_quiet_step (with_reducible exact cT _ _) | quiet_step (with_reducible exact cT _ _))
 repeat (first | go_big_quiet_step (fail) | quiet_step (fail))
 repeat (first | go_big_quiet_step (with_reducible exact cU _ _) | quiet_step (with_reducible exact cU _ _))
 refine wpQuiet_nil ?_;intro _ hw9;obtain⟨⟨dq,osq⟩,hw9⟩:=hw9;subst hw9;exact HQ _ _ _ _ _ _ _ _ _ _ _ _ _ _ _ _ _ (below_regrown V dq osq)
theorem zse:∀(L:List PatM) (k:Nat) (hk:k<L.length),(L.flatMap PatM.cells)[k * 2]? = some L[k].v/\(L.flatMap PatM.cells)[k * 2+1]? = some (.bool L[k].1.kr)
 | [],k,h=>by simp at h
 | a :: L,0,_=>⟨rfl,rfl⟩
 | a :: L,k+1,h=>by
  have ih:=zse L k (by simpa using h)
  have e1:(k+1) * 2=(k * 2)+1+1:=by omega
  have e2:(k+1) * 2+1=(k * 2+1)+1+1:=by omega
  rw[ZG,e1];exact ih
theorem smR15 (ops:Array Oper)(hops:Tryz.f43.body.bind (z0w 15)=some ops)(Q:Exit->Act->zW->Prop)(V:zW)(g n c k nt ct nu cu:Nat)(At Au:zP)(rt ru:Bool)(hk:k+1<n)(hn:n<=1000)
  (hc0:V.cell? ⟨g,(k+1) * 2,none⟩=some (.slice At nt ct)) (hc1:V.cell? ⟨g,(k+1) * 2+1,none⟩=some (.bool rt)) (hd0:V.cell? ⟨g,k * 2,none⟩=some (.slice Au nu cu)) (hd1:V.cell? ⟨g,k * 2+1,none⟩=some (.bool ru))
  (fc0:V.frozen? ⟨g,(k+1) * 2,none⟩=false) (fc1:V.frozen? ⟨g,(k+1) * 2+1,none⟩=false) (fd0:V.frozen? ⟨g,k * 2,none⟩=false) (fd1:V.frozen? ⟨g,k * 2+1,none⟩=false)
  (hQ:∀(fw fx fy fA fB fC fD fE fF fG fH fI fJ fK fL fM:zV),Q .normal ⟨#[u0,u1,u2,u3,u4,zL (some ⟨g,0,none⟩) n c,u6,u7,u8,u9,gF,zI ((k:Int)+1),gH,gI,gJ,gK,gL,gM,gN,gO,gP,gQ,gR,gT,gV,gW,gX,gY,gZ,i6,i7,i8,ia,ib,ic,ie,ig,ii,ij,ik,il,im,io,ip,iq,ir,iu,iv,iw,iy,iz,iA,iB,iC,iD,iE,iF,iG,iH,iI,fw,fx,fy,fA,fB,fC,fD,fE,fF,fG,fH,fI,fJ,fK,fL,fM,iZ,j0,j1,j2,j9,jb,jd,je,jf,jg,jh,ji,jj,jk,jl,jm,jn,jo,jp,jq,jr,js,jt,ju,bB,bD,bE,bF,bG,bH,bI,bJ,bK,bL,bM,bN,bO,bP,bQ,bT,bU,bV,bW,bX,bY,bZ],[]⟩ (((((V.setCell ⟨g,(k+1) * 2,none⟩ (zL Au nu cu)).setCell ⟨g,(k+1) * 2+1,none⟩ (.bool ru)).setCell ⟨g,k * 2,none⟩ (zL At nt ct)).setCell ⟨g,k * 2+1,none⟩ (.bool rt))).drew):
  (Code.region 15 ops true).wp Tryz.prog Q ⟨#[u0,u1,u2,u3,u4,zL (some ⟨g,0,none⟩) n c,u6,u7,u8,u9,gF,zI ((k:Int)+1),gH,gI,gJ,gK,gL,gM,gN,gO,gP,gQ,gR,gT,gV,gW,gX,gY,gZ,i6,i7,i8,ia,ib,ic,ie,ig,ii,ij,ik,il,im,io,ip,iq,ir,iu,iv,iw,iy,iz,iA,iB,iC,iD,iE,iF,iG,iH,iI,iJ,iK,iL,iM,iN,iO,iP,iQ,iR,iS,iT,iU,iV,iW,iX,iY,iZ,j0,j1,j2,j9,jb,jd,je,jf,jg,jh,ji,jj,jk,jl,jm,jn,jo,jp,jq,jr,js,jt,ju,bB,bD,bE,bF,bG,bH,bI,bJ,bK,bL,bM,bN,bO,bP,bQ,bT,bU,bV,bW,bX,bY,bZ],[]⟩ V:=by
 simp only[Tryz.f43,Zp,z0w] at hops
 simp at hops
 subst hops;have hz1:(k:Int)+1<(n:Int):=by omega
 have hz2:(k:Int)<(n:Int):=by omega
 have hz4:(k:Int)+1 - 1=(k:Int):=by omega
 have hz7:(0:Int)<=(k:Int)+1:=by omega
 have hz6:IntKind.i64.wrap (k:Int)=(k:Int):=by rw[IntKind.wrap_i64];omega
 have hz5:IntKind.i64.wrap ((k:Int)+1 - 1)=(k:Int):=by rw[IntKind.wrap_i64];omega
 have HQ:=hd_ hQ;clear hQ;refine wp_region_noPanic ?_;go_region_law (fail)
 all_goals exact NoPanic.normal (HQ _ _ _ _ _ _ _ _ _ _ _ _ _ _ _ _)
end
