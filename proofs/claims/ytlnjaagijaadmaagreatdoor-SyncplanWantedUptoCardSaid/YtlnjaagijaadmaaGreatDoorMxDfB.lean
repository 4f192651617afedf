/- A part. -/
import Derived.Test.YtlnjaagijaadmaaGreatDoorMvw14
set_option linter.unusedVariables false
set_option linter.unusedSimpArgs false
set_option maxHeartbeats 8000000
set_option maxRecDepth 100000
namespace Go.Proofs.YtlnjaagijaadmaaGreatDoor
open Go.RowKit
open Go.Sort (grow)
section
variable {u0 u1 u2 u3 u4 u5 u6 u7 u8 u9 gF gG gH gI gJ gK gL gM gN gO gP gQ gR gT gV gW gX gY gZ i6 i7 i8 ia ib ic ie ig ii ij ik il im io ip iq ir iu iv iw iy iz iA iB iC iD iE iF iG iH iI iJ iK iL iM iN iO iP iQ iR iS iT iU iV iW iX iY iZ j0 j1 j2 j9 jb jd je jf : zV}
theorem zj2:z0e Tryz.prog 94 99 5 64:=z0f Tryz.underlying94 (z:=.agg #[zI 0,zS ⟨#[]⟩,zI 0,zS ⟨#[]⟩,zS ⟨#[]⟩]) (by kernel_rfl) rfl (by decide)
theorem zj3 (x:Syn):∀ v∈x.cells,v.oneCell'=true:=by
 intro v hv;simp only[Syn.cells,Zn,ZO,or_false] at hv
 rcases hv with rfl | rfl | rfl | rfl | rfl <;> rfl
theorem z49.to_grown {g:Nat}{w w':zW}(h:z49 [g] w w'):w.grownBy w' (some g):=⟨h.os,h.tape,h.output,h.size,fun k hk hne=>h.block k hk (by intro e;rw[Zm] at e;exact hne (by rw[e]))⟩
def zj4:zV->Nat
 | zL _ n _=>n
 | _=>0
structure DfSt (w wr:zW)(hs ws:List Hav)(hv wv pv:zV)(hs' ws':List Hav)(done:List Syn):Prop where
 low:zB w wr
 h:z5s w hv hs'
 v:z5s w wv ws'
 own:wr.ownsRow w.heap.size 99 5 pv done.length (done.flatMap Syn.cells)
 sub:(∀ x∈hs',x∈hs)/\∀ x∈ws',x∈ws
 len:done.length+(hs'.length+ws'.length)<=hs.length+ws.length
 is:∃ n,hs'.length+ws'.length<=n/\done++z7n n hs' ws'=z7n (hs.length+ws.length) hs ws
theorem DfSt.next {w wr w8:zW}{hs ws:List Hav}{hv wv pv hv' wv':zV}{hs' ws' hs2 ws2:List Hav}{done:List Syn}{x:Syn}{A':zP}{c':Nat}(h:DfSt w wr hs ws hv wv pv hs' ws' done)
  (hb:zB w w8) (ho:w8.ownsRow w.heap.size 99 5 (zL A' (done.length+1) c') (done.length+1) (done.flatMap Syn.cells++x.cells))
  (h2:z5s w hv' hs2) (v2:z5s w wv' ws2) (s1:∀ x∈hs2,x∈hs') (s2:∀ x∈ws2,x∈ws') (hl:hs2.length+ws2.length<hs'.length+ws'.length) (he:∀ n,z7n (n+1) hs' ws'=x :: z7n n hs2 ws2):
  DfSt w w8 hs ws hv' wv' (zL A' (done.length+1) c') hs2 ws2 (done++[x]):=by
 refine⟨hb,h2,v2,?_,⟨fun y hy=>h.sub.1 y (s1 y hy),fun y hy=>h.sub.2 y (s2 y hy)⟩,by rw[Zc,ZL];have:=h.len;omega,?_⟩
 ·rw[Zc,ZL,z6i];exact ho
 ·obtain⟨n,hn,e⟩:=h.is;cases n with
  | zero=>omega
  | succ n=>exact⟨n,by omega,by rw[<- e,he,ZE];rfl⟩
theorem DfSt.same {w wr w8:zW}{hs ws:List Hav}{hv wv pv hv' wv':zV}{hs' ws' hs2 ws2:List Hav}{done:List Syn}(h:DfSt w wr hs ws hv wv pv hs' ws' done)
  (hb:zB w w8) (ho:w8.ownsRow w.heap.size 99 5 pv done.length (done.flatMap Syn.cells))
  (h2:z5s w hv' hs2) (v2:z5s w wv' ws2) (s1:∀ x∈hs2,x∈hs') (s2:∀ x∈ws2,x∈ws') (hl:hs2.length+ws2.length<hs'.length+ws'.length) (he:∀ n,z7n (n+1) hs' ws'=z7n n hs2 ws2):
  DfSt w w8 hs ws hv' wv' pv hs2 ws2 done:=by
 refine⟨hb,h2,v2,ho,⟨fun y hy=>h.sub.1 y (s1 y hy),fun y hy=>h.sub.2 y (s2 y hy)⟩,by have:=h.len;omega,?_⟩
 obtain⟨n,hn,e⟩:=h.is;cases n with
 | zero=>omega
 | succ n=>exact⟨n,by omega,by rw[<- e,he]⟩
theorem z5s.tail2 {w:zW}{ad:Addr}{c n:Nat}{x:Hav}{r:List Hav}(h:z5s w (zL (some ad) n c) (x :: r)):
  z5s w (zL (if c=1 then some ad else some ⟨ad.block,ad.off+3,none⟩) r.length (c - 1)) r:=by
 obtain⟨A,c',e,h1,h2,h3,h4,h5⟩:=id h;injection e with e1 e2 e3
 subst e1 e3;rw[Zz] at h1 h5;refine⟨_,_,rfl,by omega,by omega,by
  rw[ZG,Zc,Zz] at h3;have h9:x.cells.length=3:=rfl;omega,?_,fun hr=>?_⟩
 ·intro hn;split at hn <;> cases hn
 obtain⟨ad',e',hb,hc⟩:=h5 (by omega)
 injection e' with e'
 subst e';rw[if_neg (by omega)]
 refine⟨_,rfl,hb,fun j u hj=>?_⟩;have:=hc (j+3) u (by
  rw[ZG,List.getElem?_append_right (by simp [Hav.cells])]
  simpa [Hav.cells] using hj)
 unfold Addr.add at this |-
 by_cases h0:j=0
 ·subst h0;simpa using this
 ·simpa [Nat.add_assoc,Nat.add_comm 3 j,h0] using this
theorem z5t.kw {w w':zW}{ad:Addr}{x:Hav}(h:z5t w ad x)(hab:ad.block<w.heap.size)(hb:zB w w'):z5t w' ad x:=
 ⟨(hb.cell hab).trans h.1,(hb.cell (p:=⟨ad.block,ad.off+1,none⟩) hab).trans h.2.1,(hb.cell (p:=⟨ad.block,ad.off+2,none⟩) hab).trans h.2.2⟩
theorem dfR4 (ops:Array Oper)(hops:Tryz.f70.body.bind (z0w 4)=some ops)(Q:Exit->Act->zW->Prop)(V1:zW)(ad ad2:Addr)(n c n2 c2:Nat)(x y:Hav)(hx:z5t V1 ad x)(hy:z5t V1 ad2 y)(hn:0<n)(hn2:0<n2)(h1:x.kt.size<=1000000)(h2:y.kt.size<=1000000)
  (hQ:∀(et eu ew eA eB eC eD eE eF:zV) (w':zW),zB V1 w'->Q .normal ⟨#[zL (some ad) n c,zL (some ad2) n2 c2,u2,u3,u4,u5,zI (z30 x.kt y.kt),u7,u8,u9,gF,gG,gH,gI,gJ,gK,gL,et,eu,ew,eA,eB,eC,eD,eE,eF,gX,gY,gZ,i6,i7,i8,ia,ib,ic,ie,ig,ii,ij,ik,il,im,io,ip,iq,ir,iu,iv,iw,iy,iz,iA,iB,iC,iD,iE,iF,iG,iH,iI,iJ,iK,iL,iM,iN,iO,iP,iQ,iR,iS,iT,iU,iV,iW,iX,iY,iZ,j0,j1,j2,j9,jb,jd,je,jf],[]⟩ w'):
  (Code.region 4 ops true).wp Tryz.prog Q ⟨#[zL (some ad) n c,zL (some ad2) n2 c2,u2,u3,u4,u5,u6,u7,u8,u9,gF,gG,gH,gI,gJ,gK,gL,gM,gN,gO,gP,gQ,gR,gT,gV,gW,gX,gY,gZ,i6,i7,i8,ia,ib,ic,ie,ig,ii,ij,ik,il,im,io,ip,iq,ir,iu,iv,iw,iy,iz,iA,iB,iC,iD,iE,iF,iG,iH,iI,iJ,iK,iL,iM,iN,iO,iP,iQ,iR,iS,iT,iU,iV,iW,iX,iY,iZ,j0,j1,j2,j9,jb,jd,je,jf],[]⟩ V1:=by
 simp only[Tryz.f70,Zp,z0w] at hops
 simp at hops
 subst hops;obtain⟨x0,-,-⟩:=hx;obtain⟨y0,-,-⟩:=hy;have hz:(0:Int)<(n:Int):=by omega
 have hz2:(0:Int)<(n2:Int):=by omega
 have HQ:=hd_ hQ;have HC:=hd_ (fun X=>z5p x.kt y.kt X (by omega) (by omega))
 generalize x.kt=a at x0 HC HQ;generalize y.kt=b at y0 HC HQ;generalize z30 a b=cc at HC HQ;clear hQ h1 h2;refine wp_region_noPanic ?_;go_region_law (go_simp;go_at_call 52;refine (HC _).mono ?_;rintro e w5 ⟨rfl,n5,rfl⟩)
 all_goals exact NoPanic.normal (HQ _ _ _ _ _ _ _ _ _ _ (z48 V1 _))
theorem df7 {w WR:zW}{v:zV}{n:Nat}{xs:List zV}(hl:zB w WR)(ho:WR.ownsRow w.heap.size 99 5 v n xs):
  ∃ W7 g7,WR.alloc (zC #[zI 0,zS ⟨#[]⟩,zI 0,zS ⟨#[]⟩,zS ⟨#[]⟩] 99)=W7/\WR.heap.size=g7/\Hid (zB w W7)/\Hid (W7.ownsRow w.heap.size 99 5 v n xs)/\Hid (Blk W7 g7 99 [zI 0,zS ⟨#[]⟩,zI 0,zS ⟨#[]⟩,zS ⟨#[]⟩])/\Hid (w.heap.size<=g7/\∀ k,v.ownBlock=some k->k<g7):=
 ⟨_,_,rfl,rfl,hl.alloc hl.size _,z0n ho ((Zb WR.heap.size WR).alloc (Zd _) _),z0l WR _ _,hl.size,fun k e=>(ho.lt k e).2⟩
theorem df8 {w W7:zW}{v:zV}{n g7:Nat}{xs cs:List zV}(nq:Nat)(hl:zB w W7)(ho:W7.ownsRow w.heap.size 99 5 v n xs)(hb:Blk W7 g7 99 cs):
  ∃ W8,W7.drewN nq=W8/\Hid (zB w W8)/\Hid (W8.ownsRow w.heap.size 99 5 v n xs)/\Hid (Blk W8 g7 99 cs):=
 ⟨_,rfl,hl.trans ((z48 W7 nq).mono hl.size),ho,hb⟩
theorem df9 {w W8 W9:zW}{v a b c d e:zV}{n g7:Nat}{xs:List zV}(hK:z49 [g7] W8 W9)(hB:Blk W9 g7 99 [a,b,c,d,e])(hg:w.heap.size<=g7/\∀ k,v.ownBlock=some k->k<g7)(hl:zB w W8)(ho:W8.ownsRow w.heap.size 99 5 v n xs):
  (W9.cell? ⟨g7,0,none⟩=some a/\W9.cell? ⟨g7,1,none⟩=some b/\W9.cell? ⟨g7,2,none⟩=some c/\W9.cell? ⟨g7,3,none⟩=some d/\W9.cell? ⟨g7,4,none⟩=some e)/\Hid ((W9.alloc (zC #[a,b,c,d,e] 99)).ownsRow w.heap.size 99 5 v n xs)/\Hid (zB w (W9.alloc (zC #[a,b,c,d,e] 99))) /\
  Row (W9.alloc (zC #[a,b,c,d,e] 99)) 5 (zL (some ⟨W9.heap.size,0,none⟩) 1 1) 1 [a,b,c,d,e]:=by
 have h1:=z5b ho hK.to_grown (fun k e e2=>by injection e2 with e2;have:=hg.2 k e;omega)
 have h2:=hl.trans (hK.to_below (fun s hs=>by rw[Zm] at hs;have:=hg.1;omega) hl.size)
 exact⟨⟨hB.cell 0,hB.cell 1,hB.cell 2,hB.cell 3,hB.cell 4⟩,z0n h1 ((Zb W9.heap.size W9).alloc (Zd _) _),h2.alloc h2.size _,z0i W9 [a,b,c,d,e] 99 5 1 rfl (by decide) _ rfl⟩
theorem zj5 (hs ws:List Hav)(hv wv:zV)(w:zW)(hH:z5s w hv hs)(hW:z5s w wv ws)(hz:∀ x∈hs,x.kt.size<=1000000)(hz2:∀ x∈ws,x.kt.size<=1000000)(hl:hs.length+ws.length<=1000000):
  Calls Tryz.prog 70 #[hv,wv] w fun e w'=>∃ v,e=.returned v/\w'.ownsRow w.heap.size 99 5 v (z7n (hs.length+ws.length) hs ws).length ((z7n (hs.length+ws.length) hs ws).flatMap Syn.cells)/\zB w w':=by
 have HZ:=hd_ hz;have HZ2:=hd_ hz2;have HS0:Hid (DfSt w w hs ws hv wv (zL none 0 0) hs ws []):=hd_ ⟨Zb _ _,hH,hW,Zv _ _ _ _,⟨fun _ h=>h,fun _ h=>h⟩,by simp,_,Zd _,rfl⟩
 clear hH hW hz hz2;go_enter Tryz.func70,Tryz.ntmps70;go_wp2_with fail;go_loopw [0,1,5] (fun a b p wr=>∃(hs' ws':List Hav) (done:List Syn),Hid (DfSt w wr hs ws a b p hs' ws' done)) (fun a b _ _=>zj4 a+zj4 b)
 exact⟨hs,ws,[],HS0⟩
 obtain⟨hs',ws',done,HI⟩:=hrel;clear HS0;obtain⟨A1,c1,rfl,-⟩:=id HI.out.h;obtain⟨A2,c2,rfl,-⟩:=id HI.out.v;obtain⟨A3,c3,rfl⟩:=z0o HI.out.own;have hdl:done.length+(hs'.length+ws'.length)<=1000000:=by have:=HI.out.len;omega
 have HSZ:=hd_ (Zf HI.low.size (Zd _));cases hs' with
 | nil =>
  cases ws' with
  | nil =>
   have HEND:Hid (done=z7n (hs.length+ws.length) hs ws):=hd_ (by
    obtain⟨n,-,e⟩:=HI.out.is;rw[<- e];cases n <;> simp [z7n])
   go_wp2_with fail;go_ret;refine⟨_,rfl,?_,HI.low⟩;rw[<- HEND.out];exact HI.own
  | cons y yr =>
   obtain⟨-,ad2,rfl,hab2,hY⟩:=z5s.head HI.out.v;have hTY:=z5s.tail2 HI.out.v;have HYB:Hid (z5t w ad2 y/\ad2.block<w.heap.size):=hd_ ⟨hY,hab2⟩;have HTY:=hd_ hTY;clear hab2 hY hTY;have HLR:=hd_ HI.low;have HOR:=hd_ HI.own;obtain⟨WR,hWR⟩:∃ X,X=wr:=⟨_,rfl⟩;subst hWR;go_upto_region 10 with fail;obtain⟨W7,g7,e7,f7,HL7,HO7,HB7,HG7⟩:=df7 HLR.out HOR.out;rw[e7,f7];clear e7 f7;go_quiet (fail)
   go_upto_region 15 with fail;obtain⟨W8,e8,HL8,HO8,HB8⟩:=df8 nq HL7.out HO7.out HB7.out;rw[e8];clear e8;refine zj1 _ (by kernel_rfl) _ W8 ad2 (yr.length+1) c2 g7 y _ _ _ _ _ (HYB.1.kw HYB.2 HL8) HB8 (by omega) (fun e=>by have h1:ad2.block<w.heap.size:=HYB.out.2;have h2:=HG7.out.1;omega) ?_
   intro fx fy fA fB fC fD fE fF fG fH fI fJ fK fL fM W9 hK hB;obtain⟨⟨b0,b1,b2,b3,b4⟩,HOX,HLX,hrow⟩:=df9 hK hB HG7.out HL8.out HO8.out;clear hK hB;go_wp2_with (at_builtin;refine z0k rfl rfl zj2 HOX rfl hrow rfl HLX HLX.size (zj3 (z7l y)) (by omega) (by unfold maxLen;omega) ?_;intro A9 c9 w9 hown9 hbl9)
   have HN:=hd_ (HI.next (x:=z7l y) hbl9 hown9 HI.h HTY (fun z hz=>hz) (fun z hz=>Zh _ hz) (by simp only[Zz,List.length_nil];omega) (fun n=>rfl))
   clear hown9 hbl9;go_wp2_with fail;go_roundw
   exact⟨[],yr,done++[z7l y],HN⟩
   first | (simp [zj4];done) | (simp [zj4];omega)
 | cons x hr =>
  cases ws' with
  | nil =>
   obtain⟨-,ad,rfl,hab,hX⟩:=z5s.head HI.out.h;have hTX:=z5s.tail2 HI.out.h;have HXB:Hid (z5t w ad x/\ad.block<w.heap.size):=hd_ ⟨hX,hab⟩;have HTX:=hd_ hTX;clear hab hX hTX;have HLR:=hd_ HI.low;have HOR:=hd_ HI.own;obtain⟨WR,hWR⟩:∃ X,X=wr:=⟨_,rfl⟩;subst hWR;go_upto_region 10 with fail;obtain⟨W7,g7,e7,f7,HL7,HO7,HB7,HG7⟩:=df7 HLR.out HOR.out;rw[e7,f7];clear e7 f7;go_quiet (fail)
   go_upto_region 12 with fail;obtain⟨W8,e8,HL8,HO8,HB8⟩:=df8 nq HL7.out HO7.out HB7.out;rw[e8];clear e8;refine zj0 _ (by kernel_rfl) _ W8 ad (hr.length+1) c1 g7 x _ _ _ _ _ (HXB.1.kw HXB.2 HL8) HB8 (by omega) ?_
   intro fd fe ff fg fh fj fk fm fp fq W9 hK hB;obtain⟨⟨b0,b1,b2,b3,b4⟩,HOX,HLX,hrow⟩:=df9 hK hB HG7.out HL8.out HO8.out;clear hK hB;go_wp2_with (at_builtin;refine z0k rfl rfl zj2 HOX rfl hrow rfl HLX HLX.size (zj3 (z7m x)) (by omega) (by unfold maxLen;omega) ?_;intro A9 c9 w9 hown9 hbl9)
   have HN:=hd_ (HI.next (x:=z7m x) hbl9 hown9 HTX HI.v (fun z hz=>Zh _ hz) (fun z hz=>hz) (by simp only[Zz,List.length_nil];omega) (fun n=>rfl))
   clear hown9 hbl9;go_wp2_with fail;go_roundw
   exact⟨hr,[],done++[z7m x],HN⟩
   first | (simp [zj4];done) | (simp [zj4];omega)
  | cons y yr =>
   obtain⟨-,ad,rfl,hab,hX⟩:=z5s.head HI.out.h;have hTX:=z5s.tail2 HI.out.h;have HXB:Hid (z5t w ad x/\ad.block<w.heap.size):=hd_ ⟨hX,hab⟩;have HTX:=hd_ hTX;clear hab hX hTX;obtain⟨-,ad2,rfl,hab2,hY⟩:=z5s.head HI.out.v;have hTY:=z5s.tail2 HI.out.v;have HYB:Hid (z5t w ad2 y/\ad2.block<w.heap.size):=hd_ ⟨hY,hab2⟩;have HTY:=hd_ hTY;clear hab2 hY hTY;have hzx:x.kt.size<=1000000:=HZ x (HI.sub.1 x (Zj ..));have hzy:y.kt.size<=1000000:=HZ2 y (HI.sub.2 y (Zj ..));go_upto_region 4 with fail;refine dfR4 _ (by kernel_rfl) _ wr ad ad2 (hr.length+1) c1 (yr.length+1) c2 x y (HXB.1.kw HXB.2 HI.low) (HYB.1.kw HYB.2 HI.low) (by omega) (by omega) hzx hzy ?_
   intro et eu ew eA eB eC eD eE eF WR hb4;have HLR:=hd_ (z0r HI.low hb4);have HOR:=hd_ (z0n HI.own hb4);clear hb4 hzx hzy;obtain⟨cc,hcc⟩:∃ cc,z30 x.kt y.kt=cc:=⟨_,rfl⟩;rw[hcc];by_cases h1:cc<0
   ·have q1:(cc == 0)=false:=by rw[beq_eq_false_iff_ne];omega
    have q2:decide (cc<=0)=true:=by simp;omega
    have q3:decide (0<=cc)=false:=by simp;omega
    have HCC:Hid (z30 x.kt y.kt<0):=hd_ (by rw[hcc];exact h1)
    clear hcc h1;go_upto_region 10 with fail;obtain⟨W7,g7,e7,f7,HL7,HO7,HB7,HG7⟩:=df7 HLR.out HOR.out;rw[e7,f7];clear e7 f7;go_quiet (fail)
    go_upto_region 12 with fail;obtain⟨W8,e8,HL8,HO8,HB8⟩:=df8 nq HL7.out HO7.out HB7.out;rw[e8];clear e8;refine zj0 _ (by kernel_rfl) _ W8 ad (hr.length+1) c1 g7 x _ _ _ _ _ (HXB.1.kw HXB.2 HL8) HB8 (by omega) ?_
    intro fd fe ff fg fh fj fk fm fp fq W9 hK hB;obtain⟨⟨b0,b1,b2,b3,b4⟩,HOX,HLX,hrow⟩:=df9 hK hB HG7.out HL8.out HO8.out;clear hK hB;go_wp2_with (at_builtin;refine z0k rfl rfl zj2 HOX rfl hrow rfl HLX HLX.size (zj3 (z7m x)) (by omega) (by unfold maxLen;omega) ?_;intro A9 c9 w9 hown9 hbl9)
    have HN:=hd_ (HI.next (x:=z7m x) hbl9 hown9 HTX HI.v (fun z hz=>Zh _ hz) (fun z hz=>hz) (by simp only[Zz,List.length_nil];omega) (fun n=>by simp only[z7n];rw[if_pos HCC.out]))
    clear hown9 hbl9;go_wp2_with fail;go_roundw
    exact⟨hr,(y :: yr),done++[z7m x],HN⟩
    first | (simp [zj4];done) | (simp [zj4];omega)
   ·by_cases h2:0<cc
    ·have q1:(cc == 0)=false:=by rw[beq_eq_false_iff_ne];omega
     have q2:decide (cc<=0)=false:=by simp;omega
     have q3:decide (0<=cc)=true:=by simp;omega
     have HCC:Hid (¬ z30 x.kt y.kt<0/\0<z30 x.kt y.kt):=hd_ (by rw[hcc];exact⟨h1,h2⟩)
     clear hcc h1 h2;go_upto_region 10 with fail;obtain⟨W7,g7,e7,f7,HL7,HO7,HB7,HG7⟩:=df7 HLR.out HOR.out;rw[e7,f7];clear e7 f7;go_quiet (fail)
     go_upto_region 15 with fail;obtain⟨W8,e8,HL8,HO8,HB8⟩:=df8 nq HL7.out HO7.out HB7.out;rw[e8];clear e8;refine zj1 _ (by kernel_rfl) _ W8 ad2 (yr.length+1) c2 g7 y _ _ _ _ _ (HYB.1.kw HYB.2 HL8) HB8 (by omega) (fun e=>by have h1:ad2.block<w.heap.size:=HYB.out.2;have h2:=HG7.out.1;omega) ?_
     intro fx fy fA fB fC fD fE fF fG fH fI fJ fK fL fM W9 hK hB;obtain⟨⟨b0,b1,b2,b3,b4⟩,HOX,HLX,hrow⟩:=df9 hK hB HG7.out HL8.out HO8.out;clear hK hB;go_wp2_with (at_builtin;refine z0k rfl rfl zj2 HOX rfl hrow rfl HLX HLX.size (zj3 (z7l y)) (by omega) (by unfold maxLen;omega) ?_;intro A9 c9 w9 hown9 hbl9)
     have HN:=hd_ (HI.next (x:=z7l y) hbl9 hown9 HI.h HTY (fun z hz=>hz) (fun z hz=>Zh _ hz) (by simp only[Zz,List.length_nil];omega) (fun n=>by simp only[z7n];rw[if_neg HCC.out.1,if_pos HCC.out.2]))
     clear hown9 hbl9;go_wp2_with fail;go_roundw
     exact⟨(x :: hr),yr,done++[z7l y],HN⟩
     first | (simp [zj4];done) | (simp [zj4];omega)
    ·have HCC:Hid (¬ z30 x.kt y.kt<0/\¬ 0<z30 x.kt y.kt):=hd_ (by rw[hcc];exact⟨h1,h2⟩)
     obtain rfl:cc=0:=by omega
     clear hcc h1 h2;by_cases hxy:x=y
     ·go_upto_region 10 with fail;obtain⟨W7,g7,e7,f7,HL7,HO7,HB7,HG7⟩:=df7 HLR.out HOR.out;rw[e7,f7];clear e7 f7;obtain⟨x0,x1,x2⟩:=HXB.out.1.kw HXB.out.2 HL7.out;obtain⟨y0,y1,y2⟩:=HYB.out.1.kw HYB.out.2 HL7.out;have heq:=fun W=>ziz x y W;have HXY:=hd_ hxy;rw[decide_eq_true hxy] at heq;have hzx:(0:Int)<((hr.length+1:Nat):Int):=by omega
      have hzy:(0:Int)<((yr.length+1:Nat):Int):=by omega
      clear hxy;go_quiet (fail)
      clear x0 x1 x2 y0 y1 y2 heq hzx hzy;go_upto_region 12 with fail;obtain⟨W8,e8,HL8,HO8,HB8⟩:=df8 nq HL7.out HO7.out HB7.out;rw[e8];clear e8;refine zj0 _ (by kernel_rfl) _ W8 ad (hr.length+1) c1 g7 x _ _ _ _ _ (HXB.1.kw HXB.2 HL8) HB8 (by omega) ?_
      intro fd fe ff fg fh fj fk fm fp fq W9 hK hB;have HB8:=hd_ hB;have HO8:=hd_ (z5b HO8 hK.to_grown (fun k e e2=>by injection e2 with e2;have:=HG7.out.2 k e;omega))
      have HL8:=hd_ (HL8.trans (hK.to_below (fun s hs=>by rw[Zm] at hs;have:=HG7.out.1;omega) HL8.size))
      clear hK hB;go_upto_region 15 with fail;obtain⟨W8,rfl⟩:∃ X,X=W9:=⟨_,rfl⟩;refine zj1 _ (by kernel_rfl) _ W8 ad2 (yr.length+1) c2 g7 y _ _ _ _ _ (HYB.1.kw HYB.2 HL8) HB8 (by omega) (fun e=>by have h1:ad2.block<w.heap.size:=HYB.out.2;have h2:=HG7.out.1;omega) ?_
      intro fx fy fA fB fC fD fE fF fG fH fI fJ fK fL fM W9 hK hB;have HB8:=hd_ hB;have HO8:=hd_ (z5b HO8 hK.to_grown (fun k e e2=>by injection e2 with e2;have:=HG7.out.2 k e;omega))
      have HL8:=hd_ (HL8.trans (hK.to_below (fun s hs=>by rw[Zm] at hs;have:=HG7.out.1;omega) HL8.size))
      clear hK hB;have HN:=hd_ (HI.same HL8 HO8 HTX HTY (fun z hz=>Zh _ hz) (fun z hz=>Zh _ hz) (by simp only[Zz,List.length_nil];omega) (fun n=>by simp only[z7n];rw[if_neg HCC.out.1,if_neg HCC.out.2];simp [HXY.out]))
      go_wp2_with fail;go_roundw
      exact⟨hr,yr,done,HN⟩
      first | (simp [zj4];done) | (simp [zj4];omega)
     ·go_upto_region 10 with fail;obtain⟨W7,g7,e7,f7,HL7,HO7,HB7,HG7⟩:=df7 HLR.out HOR.out;rw[e7,f7];clear e7 f7;obtain⟨x0,x1,x2⟩:=HXB.out.1.kw HXB.out.2 HL7.out;obtain⟨y0,y1,y2⟩:=HYB.out.1.kw HYB.out.2 HL7.out;have heq:=fun W=>ziz x y W;have HXY:=hd_ hxy;rw[decide_eq_false hxy] at heq;have hzx:(0:Int)<((hr.length+1:Nat):Int):=by omega
      have hzy:(0:Int)<((yr.length+1:Nat):Int):=by omega
      clear hxy;go_quiet (fail)
      clear x0 x1 x2 y0 y1 y2 heq hzx hzy;go_upto_region 12 with fail;obtain⟨W8,e8,HL8,HO8,HB8⟩:=df8 nq HL7.out HO7.out HB7.out;rw[e8];clear e8;refine zj0 _ (by kernel_rfl) _ W8 ad (hr.length+1) c1 g7 x _ _ _ _ _ (HXB.1.kw HXB.2 HL8) HB8 (by omega) ?_
      intro fd fe ff fg fh fj fk fm fp fq W9 hK hB;have HB8:=hd_ hB;have HO8:=hd_ (z5b HO8 hK.to_grown (fun k e e2=>by injection e2 with e2;have:=HG7.out.2 k e;omega))
      have HL8:=hd_ (HL8.trans (hK.to_below (fun s hs=>by rw[Zm] at hs;have:=HG7.out.1;omega) HL8.size))
      clear hK hB;go_upto_region 15 with fail;obtain⟨W8,rfl⟩:∃ X,X=W9:=⟨_,rfl⟩;refine zj1 _ (by kernel_rfl) _ W8 ad2 (yr.length+1) c2 g7 y _ _ _ _ _ (HYB.1.kw HYB.2 HL8) HB8 (by omega) (fun e=>by have h1:ad2.block<w.heap.size:=HYB.out.2;have h2:=HG7.out.1;omega) ?_
      intro fx fy fA fB fC fD fE fF fG fH fI fJ fK fL fM W9 hK hB;obtain⟨⟨b0,b1,b2,b3,b4⟩,HOX,HLX,hrow⟩:=df9 hK hB HG7.out HL8.out HO8.out;clear hK hB;go_wp2_with (at_builtin;refine z0k rfl rfl zj2 HOX rfl hrow rfl HLX HLX.size (zj3 (updT x y)) (by omega) (by unfold maxLen;omega) ?_;intro A9 c9 w9 hown9 hbl9)
      have HN:=hd_ (HI.next (x:=updT x y) hbl9 hown9 HTX HTY (fun z hz=>Zh _ hz) (fun z hz=>Zh _ hz) (by simp only[Zz,List.length_nil];omega) (fun n=>by simp only[z7n];rw[if_neg HCC.out.1,if_neg HCC.out.2];simp [HXY.out]))
      clear hown9 hbl9;go_wp2_with fail;go_roundw
      exact⟨hr,yr,done++[updT x y],HN⟩
      first | (simp [zj4];done) | (simp [zj4];omega)
end
