/- A part of the proof. -/
import Derived.Test.YtegeboijhifmcaaGreatDoorMgw40
import Derived.Test.YtegeboijhifmcaaGreatDoorMgw41
set_option linter.unusedVariables false
set_option linter.unusedSimpArgs false
set_option maxHeartbeats 16000000
set_option maxRecDepth 100000
namespace Go.Proofs.YtegeboijhifmcaaGreatDoor
open Go.RowKit
theorem WsB.depot {w wr:World}{U g gw m:Nat}{D D':List Rev}{dv dr cv dv' dr':Value}{l:List Cnk}(h:WsB w wr U g gw m D dv dr cv l)(hR:z45 wr dv' D')(hf:∀ x,dv'.ownBlock=some x→x≠gw∧x<wr.heap.size∧cv.ownBlock≠some x):
  WsB w ((wr.setCell ⟨gw,0,none⟩ dv').setCell ⟨gw,1,none⟩ dr') U g gw m D' dv' dr' cv l:=by
 have hle:=h.le;have hb:Below w.heap.size wr ((wr.setCell ⟨gw,0,none⟩ dv').setCell ⟨gw,1,none⟩ dr'):=((Below.refl _ _).setCell (p:=⟨gw,0,none⟩) hle dv').setCell (p:=⟨gw,1,none⟩) hle dr';have hc:cv.ownBlock≠some gw:=fun e=>by have:=(h.cnk.lt _ e).1;omega
 have hd:dv'.ownBlock≠some gw:=fun e=>(hf gw e).1 rfl;exact⟨h.kept.onto hb,h.tape.onto h.UU hb,(h.box.set_ 0 dv').set_ 1 dr',z4r (z4r h.cnk (p:=⟨gw,0,none⟩) hc dv') (p:=⟨gw,1,none⟩) hc dr',Row.set_far (Row.set_far hR hd) hd,h.gU,h.UU,h.le,fun x hx=>⟨(hf x hx).1,by simp;exact (hf x hx).2.1,(hf x hx).2.2⟩⟩
def MkPost (w:World)(U g m:Nat)(e:Ending)(w':World):Prop:=∃(Ar Aq:Option Addr) (cr cq:Nat) (cv:Value) (D:List Rev) (l:List Cnk),
 e=.returned (.agg #[.slice Ar D.length cr,.slice Aq 0 cq,cv])∧z45 w' (.slice Ar D.length cr) D∧(∀ x,(Value.slice Ar D.length cr).ownBlock=some x→w.heap.size≤x)∧zmr D 30∧(∀ r∈D,0≤r.chg∧r.chg≤100)∧zgf w' U g m∧z6t [g] w w'∧w'.ownsRow w.heap.size 207 3 cv l.length (l.flatMap Cnk.cells)∧l.length≤30
structure MkI (w wr:World)(U g gr gw m j:Nat)(num:Int):Prop where
 it:∃(Ar Aq:Option Addr) (cr cq:Nat) (cv:Value) (D:List Rev) (l:List Cnk),WsB w wr U g gw (m+71 * j) D (.slice Ar D.length cr) (.slice Aq 0 cq) cv l∧z48 w (.slice Aq 0 cq) []∧(∀ x,(Value.slice Ar D.length cr).ownBlock=some x→gw<x)∧zmr D (6 * j)∧(∀ r∈D,0≤r.chg∧r.chg≤num)∧l.length≤6 * j
 num0:0≤num
 numj:num≤3 * j
 res:Blk wr gr 75 [.slice none 0 0,.slice none 0 0,.slice none 0 0]
theorem zmr.mono {D:List Rev}{n n':Nat}(h:zmr D n)(hn:n≤n'):zmr D n':=⟨Nat.le_trans h.len hn,h.six,h.num⟩
theorem mk_next {w w3 w7:World}{U g gr gw m j:Nat}{num num':Int}{D:List Rev}{Ar Aq A A2:Option Addr}{cr cq n c c2:Nat}{cv cv':Value}{n0:Nat}{e0:Int}{g8:Nat}{l':List Cnk}{es:List Edt}
  (hP:MkP w w3 w7 U g gw (m+71 * (j+1)) D (.slice Ar D.length cr) (.slice Aq 0 cq) cv n0 num' A A2 n c c2 e0 g8 cv' l' es) (hn0:n0≤6 * j) (hQ:z48 w (.slice Aq 0 cq) []) (hfr:∀ x,(Value.slice Ar D.length cr).ownBlock=some x→gw<x) (hD:zmr D (6 * j)) (hch:∀ r∈D,0≤r.chg∧r.chg≤num)
  (h0:0≤num) (h1:num≤num') (h2:num'≤3 * ((j:Int)+1)) (hr:Blk w7 gr 75 [.slice none 0 0,.slice none 0 0,.slice none 0 0]) (hgr:gr≠gw) (hgw:gw<w3.heap.size):
  (e0≠0→MkI w w7 U g gr gw m (j+1) num')∧(e0=0→MkI w ((w7.setCell ⟨gw,0,none⟩ (.slice A n c)).setCell ⟨gw,1,none⟩ (.slice A2 0 c2)) U g gr gw m (j+1) num'):=by
 have hl:=hP.len;refine⟨fun he=>⟨⟨Ar,Aq,cr,cq,cv',D,l',hP.ws,hQ,hfr,hD.mono (by omega),fun r hr=>⟨(hch r hr).1,Int.le_trans (hch r hr).2 h1⟩,by omega⟩,by omega,by omega,hr⟩,fun he=>?_⟩
 rcases hP.ok with h | ⟨-,hn,hR,hb,hQ2⟩
 ·exact absurd he h
 ·have hfar:∀ x,(Value.slice A n c).ownBlock=some x→x≠gw∧x<w7.heap.size∧cv'.ownBlock≠some x:=fun x hx=>⟨by have:=(hb x hx).1;omega,(hb x hx).2,(hP.far x hx).1⟩
  have hS:=hP.ws.depot (dr':=.slice A2 0 c2) hR hfar;have hDp:zmr (D++es.map (zhy num')) (6 * j+es.length):=dp_app hD num' (fun x hx=>by obtain⟨i,hi,-,e⟩:=hP.edk.six x hx;rw[← e];exact List.getElem_mem hi) hP.edk.nd hP.edk.base
  have hel:=hP.edk.len;have hlen:(D++es.map (zhy num')).length=n:=by rw[List.length_append,List.length_map,hn]
  refine⟨⟨A,A2,c,c2,cv',D++es.map (zhy num'),l',by rw[hlen];exact hS,zpj hQ2,fun x hx=>?_,hDp.mono (by omega),fun r hr=>?_,by omega⟩,by omega,by omega,(hr.far (p:=⟨gw,0,none⟩) (by exact hgr.symm) _).far (p:=⟨gw,1,none⟩) (by exact hgr.symm) _⟩
  ·rw[hlen] at hx;have:=(hb x hx).1;omega
  ·rcases List.mem_append.1 hr with hr | hr
   ·exact⟨(hch r hr).1,Int.le_trans (hch r hr).2 h1⟩
   ·obtain⟨x,-,rfl⟩:=List.mem_map.1 hr;exact⟨by show 0≤num';omega,Int.le_refl _⟩
theorem zpk (U g m:Nat)(w:World)(he:Env w)(hT:zgf w U g m)(hU:U≤w.heap.size)(hm:m≤50000):
  Calls Tryz.prog 30 #[.pointer (some ⟨g,0,none⟩),.int .i64 5] w (MkPost w U g (m+400)):=by
 have hg:=hT.ltU;obtain⟨W1,hW1⟩:∃ W,W=(w.alloc (.cells #[.slice none 0 0,.slice none 0 0,.slice none 0 0] 75)).alloc (.cells #[.slice none 0 0,.slice none 0 0,.slice none 0 0] 75):=⟨_,rfl⟩;have hb1:Below w.heap.size w W1:=by rw[hW1];exact ((Below.refl _ _).alloc (Nat.le_refl _) _).alloc (by simp) _
 have hr1:Blk W1 w.heap.size 75 [.slice none 0 0,.slice none 0 0,.slice none 0 0]:=by rw[hW1];exact (z0l w _ _).alloc _
 have hx1:Blk W1 (w.heap.size+1) 75 [.slice none 0 0,.slice none 0 0,.slice none 0 0]:=by
  rw[hW1];have:=z0l (w.alloc (.cells #[.slice none 0 0,.slice none 0 0,.slice none 0 0] 75)) [.slice none 0 0,.slice none 0 0,.slice none 0 0] 75;simp only[World.size_alloc] at this
  exact this
 have hT1:=hT.below hb1;have HW:=hd_ hW1;have HN1:=hd_ (zgg U g m 6 W1 hT1 (by omega) (by omega))
 have HN2:=hd_ (fun m' X (h:zgf X U g m') (hm':m'≤60000)=>zgg U g m' 2 X h (by omega) (by omega))
 have HENV:Hid (∀ X,z6t [g] w X→Env X):=hd_ fun X hX=>he.keptT hT hX;have HGU:Hid (g<U∧U≤w.heap.size):=hd_ ⟨hg,hU⟩;have H0:Hid (∀ X,z6t [g] W1 X→zgf X U g (m+1)→MkI w X U g w.heap.size (w.heap.size+1) (m+1) 0 0):=hd_ fun X hX hTX=>by
  refine⟨⟨none,none,0,0,.slice none 0 0,[],[],⟨(z6t.below hb1).trans hX,hTX.mono (by omega),hX.blk hx1 (by simp;omega),World.ownsRow_nil _ _ _ _,z45.nil_ _,hg,hU,by omega,(fun x hx=>by cases hx)⟩,z48.nil_ _,(fun x hx=>by cases hx),dp_nil,(fun r hr=>by cases hr),by simp⟩,Int.le_refl _,by omega,hX.blk hr1 (by simp;omega)⟩
 clear he hT hU hg hT1 hb1 hr1 hx1 hW1;go_enter Tryz.func30,Tryz.ntmps30;go_upto_region 3 with fail;rw[← HW.out];go_wp2_with fail;refine HN1.out.mono ?_;rintro e w2 ⟨K,rfl,hK,hT2,hK2⟩;dsimp only;have HI0:=hd_ (H0.out w2 hK2 hT2);obtain⟨k0,rfl,hk0⟩:∃ k0:Nat,K=k0∧k0<6:=⟨K.toNat,by have:=hK.1;omega,by have:=hK.1;have:=hK.2.1 (by omega);omega⟩
 clear hT2 hK2 H0 HN1 hK;go_upto_block 0 with fail
 generalize hgw:w.heap.size+1=gw at HI0;have HGW:=hd_ hgw;go_cut [] (fun wx=>∃(j:Nat) (num:Int),j≤5∧Hid (MkI w wx U g w.heap.size gw (m+1) j num))
 case first =>
  go_wp2_with fail;go_loopw [6,7] (fun s6 s7 wr=>∃(k j:Nat) (num:Int),s6=.int .i64 num∧s7=.int .i64 k∧k+j≤5∧Hid (MkI w wr U g w.heap.size gw (m+1) j num)) (fun _ s7 _=>(intOf s7).toNat)
  case atStart=>exact⟨k0,0,0,rfl,rfl,by omega,HI0⟩
  case round =>
   obtain⟨k,j,num,rfl,rfl,hkj,HI⟩:=hrel;by_cases hk:0<k
   ·obtain⟨Ar,Aq,cr,cq,cv,D,l,hS,hQr,hfr,hDp,hch,hln⟩:=HI.out.it;have hn0:=HI.out.num0;have hnj:=HI.out.numj;have HR:=hd_ HI.out.res;have HS:=hd_ hS;have HNX:=hd_ (HN2.out (m+1+71 * j) wr hS.tape (by omega))
    have HD:=hd_ (And.intro hQr (And.intro hfr (And.intro hDp (And.intro hch hln))));have q:decide ((0:Int)<(k:Int))=true:=by simp;omega
    clear hS hQr hfr hDp hch hln HI;go_wp2_with fail;refine HNX.out.mono ?_;rintro e w3 ⟨r,rfl,hr,hT3,hK3⟩;dsimp only;obtain⟨hr0,hr2⟩:0≤r∧r<2:=⟨hr.1,hr.2.1 (by omega)⟩
    have HS3:=hd_ (HS.out.next hK3 hT3);have HK3:=hd_ hK3;have hwa:IntKind.i64.wrap (1+r)=1+r:=by rw[IntKind.wrap_i64];omega
    have hwb:IntKind.i64.wrap (num+(1+r))=num+(1+r):=by rw[IntKind.wrap_i64];omega
    have HNM:Hid (num≤num+(1+r)∧num+(1+r)≤3 * ((j:Int)+1)):=hd_ ⟨by omega,by omega⟩
    clear hr hT3 hK3 HNX hr0 hr2;go_upto_region 7 with fail;clear hwa hwb;generalize num+(1+r)=num' at HNM ⊢;have hdl:D.length≤6 * j:=HD.out.2.2.1.len;refine mkR7 _ (by kernel_rfl) _ num' HS3.out (by have:=HD.out.2.2.2.2;omega) (by omega) (by omega) HD.out.2.2.1 (by omega) HENV.out HD.out.1 ?_
    intro eA eB eC eD eE eF eG eH eI A A2 n c c2 e0 g8 cv' l' es w7 HP;have HZ:Hid (gw<w3.heap.size∧w.heap.size<gw):=hd_ ⟨HS3.out.box.lt,by have:=HGW.out;omega⟩
    have HR7:Hid (Blk w7 w.heap.size 75 [.slice none 0 0,.slice none 0 0,.slice none 0 0]):=hd_ (by
     have hg1:=HGU.out;have hne:cv.ownBlock≠some w.heap.size:=fun e=>by have:=(HS3.out.cnk.lt _ e).1;have:=HZ.out.2;omega
     exact HP.out.frm.blk (HK3.out.blk HR.out (by simp;omega)) (by omega) (by have:=HZ.out.2;omega) hne)
    have HM:Hid ((e0≠0→MkI w w7 U g w.heap.size gw (m+1) (j+1) num')∧(e0=0→MkI w ((w7.setCell ⟨gw,0,none⟩ (.slice A n c)).setCell ⟨gw,1,none⟩ (.slice A2 0 c2)) U g w.heap.size gw (m+1) (j+1) num')):=hd_ (mk_next (num:=num) (by rw[show m+1+71 * (j+1)=m+1+71 * j+1+70 by omega];exact HP.out) HD.out.2.2.2.2 HD.out.1 HD.out.2.1 HD.out.2.2.1 HD.out.2.2.2.1 hn0 HNM.out.1 HNM.out.2 HR7.out (by have:=HZ.out.2;omega) HZ.out.1)
    obtain⟨b0,b1,-,-⟩:=box2 HP.out.box;have c0:w7.cell? ⟨gw,0,none⟩=some (.slice Ar D.length cr):=HP.out.ws.box.cell 0;have c1:w7.cell? ⟨gw,1,none⟩=some (.slice Aq 0 cq):=HP.out.ws.box.cell 1;have f0:w7.frozen? ⟨gw,0,none⟩=false:=HP.out.ws.box.frozen 0;have f1:w7.frozen? ⟨gw,1,none⟩=false:=HP.out.ws.box.frozen 1;clear HP HR7 HR HS HS3 HK3;obtain⟨kk,rfl⟩:∃ kk,k=kk+1:=⟨k - 1,by omega⟩
    have hwk:IntKind.i64.wrap (((kk+1:Nat):Int) - 1)=(kk:Int):=by rw[IntKind.wrap_i64];omega
    by_cases he:e0=0
    ·have q0:(e0 == 0)=true:=by simpa using he
     have HX:=hd_ (HM.out.2 he);clear he HM;go_wp2_with fail;go_roundw
     case rel=>exact⟨kk,j+1,num',rfl,by go_num,by omega,HX⟩
     case measure=>simp [intOf]
    ·have q0:(e0 == 0)=false:=by simpa using he
     have HX:=hd_ (HM.out.1 he);clear he HM;go_wp2_with fail;go_roundw
     case rel=>exact⟨kk,j+1,num',rfl,by go_num,by omega,HX⟩
     case measure=>simp [intOf]
   ·have hk0:k=0:=by omega
    subst hk0;have q:decide ((0:Int)<((0:Nat):Int))=false:=by simp
    go_wp2_with fail;go_meet
    exact⟨j,num,by omega,HI⟩
 case rest=>
  obtain⟨j,num,hj,HI⟩:=hcut;obtain⟨Ar,Aq,cr,cq,cv,D,l,hS,hQr,hfr,hDp,hch,hln⟩:=HI.out.it;obtain⟨A3,c3,rfl⟩:=z0o hS.cnk;have hnj:=HI.out.numj;have c0:wc.cell? ⟨gw,0,none⟩=some (.slice Ar D.length cr):=hS.box.cell 0;have c1:wc.cell? ⟨gw,1,none⟩=some (.slice Aq 0 cq):=hS.box.cell 1;have c2:wc.cell? ⟨gw,2,none⟩=some (.slice A3 l.length c3):=hS.box.cell 2;have r0:wc.cell? ⟨w.heap.size,0,none⟩=some (.slice none 0 0):=HI.out.res.cell 0;have r1:wc.cell? ⟨w.heap.size,1,none⟩=some (.slice none 0 0):=HI.out.res.cell 1;have r2:wc.cell? ⟨w.heap.size,2,none⟩=some (.slice none 0 0):=HI.out.res.cell 2;have f0:wc.frozen? ⟨w.heap.size,0,none⟩=false:=HI.out.res.frozen 0;have f1:wc.frozen? ⟨w.heap.size,1,none⟩=false:=HI.out.res.frozen 1;have f2:wc.frozen? ⟨w.heap.size,2,none⟩=false:=HI.out.res.frozen 2;have HR:=hd_ HI.out.res;have hw:=HGW.out;have hne:w.heap.size≠gw:=by omega
  have d1:(Value.slice Ar D.length cr).ownBlock≠some w.heap.size:=fun e=>by have:=hfr _ e;omega
  have d2:(Value.slice A3 l.length c3).ownBlock≠some w.heap.size:=fun e=>by have:=(hS.cnk.lt _ e).1;omega
  have hS3:=((hS.set_at (u:=.slice Ar D.length cr) (i:=0) (Nat.le_refl _) hne d2 d1).set_at (u:=.slice Aq 0 cq) (i:=1) (Nat.le_refl _) hne d2 d1).set_at (u:=.slice A3 l.length c3) (i:=2) (Nat.le_refl _) hne d2 d1;have hR3:=((HR.out.set_ 0 (.slice Ar D.length cr)).set_ 1 (.slice Aq 0 cq)).set_ 2 (.slice A3 l.length c3);have HF:Hid (MkPost w U g (m+400) (.returned (.agg #[.slice Ar D.length cr,.slice Aq 0 cq,.slice A3 l.length c3])) (((wc.setCell ⟨w.heap.size,0,none⟩ (.slice Ar D.length cr)).setCell ⟨w.heap.size,1,none⟩ (.slice Aq 0 cq)).setCell ⟨w.heap.size,2,none⟩ (.slice A3 l.length c3))):=hd_ ⟨Ar,Aq,cr,cq,_,D,l,rfl,hS3.revs,fun x hx=>by have:=hfr x hx;omega,hDp.mono (by omega),fun r hr=>⟨(hch r hr).1,by have:=(hch r hr).2;omega⟩,hS3.tape.mono (by omega),hS3.kept,z4p hS3.cnk (by omega),by omega⟩
  have HR3:=hd_ hR3;clear hS hQr hfr hDp hch hln HI hnj hS3 hR3 d1 d2 hne hw HR;go_wp2_with fail;generalize ((wc.setCell ⟨w.heap.size,0,none⟩ (.slice Ar D.length cr)).setCell ⟨w.heap.size,1,none⟩ (.slice Aq 0 cq)).setCell ⟨w.heap.size,2,none⟩ (.slice A3 l.length c3)=W9 at HF HR3 ⊢;have y0:W9.cell? ⟨w.heap.size,0,none⟩=some (.slice Ar D.length cr):=HR3.out.cell 0;have y1:W9.cell? ⟨w.heap.size,1,none⟩=some (.slice Aq 0 cq):=HR3.out.cell 1;have y2:W9.cell? ⟨w.heap.size,2,none⟩=some (.slice A3 l.length c3):=HR3.out.cell 2;refine bodyPost_ret (v:=.agg #[.slice Ar D.length cr,.slice Aq 0 cq,.slice A3 l.length c3]) (by simp [results,Tryz.results30,go_sem,y0,y1,y2]) rfl HF.out
structure ScOk (D:List Rev)(k:Nat)(es:List zd8)(ch:Int)(hs:List Hav)(op dt:List ByteArray):Prop where
 dp:zmr D 30
 chg:∀ r∈D,0≤r.chg∧r.chg≤100
 k8:k<8
 es:es.map zd8.pl=zg3 k
 ch:-1≤ch∧ch≤200
 hv:zf0 hs
 hl:hs.length≤6
 h6:∀ x∈hs,x.path∈zff
 opl:op.length≤2
 dtl:dt.length≤2
 op6:∀ x∈op,x∈zff
 dt8:∀ x∈dt,x∈zle
structure zpl (X:World)(D:List Rev)(es:List zd8)(hs:List Hav)(op dt:List ByteArray)(dv mv hv ov tv:Value):Prop where
 revs:z45 X dv D
 ents:zdi X mv es
 havs:z4b X hv hs
 opn:Strs X ov op
 drt:Strs X tv dt
theorem zpl.keptN {S:List Nat}{X X':World}{D:List Rev}{es:List zd8}{hs:List Hav}{op dt:List ByteArray}{dv mv hv ov tv:Value}(h:zpl X D es hs op dt dv mv hv ov tv)(hK:z6t S X X')(hS:∀ g∈S,zos X g):zpl X' D es hs op dt dv mv hv ov tv:=
 ⟨h.revs.keptN hK hS,h.ents.keptN hK hS,h.havs.keptN hK hS,h.opn.keptN hK hS,h.drt.keptN hK hS⟩
theorem zpl.below {X X':World}{D:List Rev}{es:List zd8}{hs:List Hav}{op dt:List ByteArray}{dv mv hv ov tv:Value}(h:zpl X D es hs op dt dv mv hv ov tv)(hb:Below X.heap.size X X'):zpl X' D es hs op dt dv mv hv ov tv:=
 ⟨h.revs.below hb,h.ents.below hb,h.havs.below hb,h.opn.below hb,h.drt.below hb⟩
theorem Row.sb {w:World}{s n:Nat}{v:Value}{xs:List Value}(h:Row w s v n xs):SbV v=false:=by
 obtain⟨A,c,rfl,-⟩:=h;rfl
structure ScB (w X:World)(U g g5 m:Nat)(D:List Rev)(es:List zd8)(ch:Int)(hs:List Hav)(op dt:List ByteArray)(dv dr mv hv ov tv:Value):Prop where
 at_:zpl X D es hs op dt dv mv hv ov tv
 box:Blk X g5 31 [dv,dr,mv,.int .i64 ch,hv,ov,tv]
 tape:zgf X U g m
 kept:z6t [g] w X
 sbr:SbV dr=false
 gU:g<U
 U5:U≤g5
 Uw:U≤w.heap.size
 w5:w.heap.size≤g5
section
variable {w X X' : World} {U g g5 m m' : Nat} {D : List Rev} {es : List zd8} {ch : Int} {hs : List Hav} {op dt : List ByteArray} {dv dr mv hv ov tv : Value}
theorem ScB.nosb (h:ScB w X U g g5 m D es ch hs op dt dv dr mv hv ov tv):∀ x∈[g5],zos X x:=fun x hx=>by
 rw[List.mem_singleton] at hx;subst hx;refine zos.blk h.box fun u hu=>?_;simp only[List.mem_cons,List.not_mem_nil,or_false] at hu
 rcases hu with rfl | rfl | rfl | rfl | rfl | rfl | rfl
 ·exact Row.sb h.at_.revs
 ·exact h.sbr
 ·exact Row.sb h.at_.ents.1
 ·rfl
 ·exact Row.sb h.at_.havs
 ·exact Row.sb h.at_.opn
 ·exact Row.sb h.at_.drt
theorem ScB.next (h:ScB w X U g g5 m D es ch hs op dt dv dr mv hv ov tv)(hK:z6t [g] X X')(hT:zgf X' U g m'):ScB w X' U g g5 m' D es ch hs op dt dv dr mv hv ov tv:=by
 have h1:=h.gU;have h2:=h.U5;exact⟨h.at_.keptN hK h.tape.nosb,hK.blk h.box (by simp;omega),hT,h.kept.trans hK,h.sbr,h.gU,h.U5,h.Uw,h.w5⟩
theorem ScB.under (h:ScB w X U g g5 m D es ch hs op dt dv dr mv hv ov tv)(hb:Below X.heap.size X X'):ScB w X' U g g5 m D es ch hs op dt dv dr mv hv ov tv:=h.next (z6t.below hb) (h.tape.below hb)
theorem ScB.put (h:ScB w X U g g5 m D es ch hs op dt dv dr mv hv ov tv)(i:Nat)(u:Value){ch':Int}{hs':List Hav}{op' dt':List ByteArray}{hv' ov' tv':Value}(he:[dv,dr,mv,.int .i64 ch,hv,ov,tv].set i u=[dv,dr,mv,.int .i64 ch',hv',ov',tv'])(h1:z4b X hv' hs')(h2:Strs X ov' op')(h3:Strs X tv' dt'):
  ScB w (X.setCell ⟨g5,i,none⟩ u) U g g5 m D es ch' hs' op' dt' dv dr mv hv' ov' tv':=by
 have hK:z6t [g5] X (X.setCell ⟨g5,i,none⟩ u):=z6t.grown (z6u X g5 i u) (by simp)
 have hb:Below w.heap.size X (X.setCell ⟨g5,i,none⟩ u):=(Below.refl _ _).setCell (p:=⟨g5,i,none⟩) h.w5 u;have hs:=h.nosb;have ha:=h.at_;refine⟨⟨ha.revs.keptN hK hs,ha.ents.keptN hK hs,h1.keptN hK hs,h2.keptN hK hs,h3.keptN hK hs⟩,?_,h.tape.onto h.Uw hb,h.kept.onto hb,h.sbr,h.gU,h.U5,h.Uw,h.w5⟩;have hX:=h.box.set_ i u;rw[he] at hX;exact hX
end
end Go.Proofs.YtegeboijhifmcaaGreatDoor
