/- A part of the proof. -/
import Derived.Test.YtegeboijhifmcaaGreatDoorMgs34
import Derived.Test.YtegeboijhifmcaaGreatDoorMgs35
import Derived.Test.YtegeboijhifmcaaGreatDoorMgs31
set_option linter.unusedVariables false
set_option linter.unusedSimpArgs false
set_option maxHeartbeats 16000000
set_option maxRecDepth 100000
namespace Go.Proofs.YtegeboijhifmcaaGreatDoor
open Go.Proofs.Tryz
open Go.RowKit
open Go.Sort (grow)
theorem zkp.grownMap {w w':World}{B U b bS:Nat}{f:ByteArray→List Nat}(h:zkp w B U b f)(hg:w.grownBy w' (some bS))(hne:bS≠b)(hm:∃ es c,w.heap[bS]? = some (.map es c)):zkp w' B U b f:=by
 obtain⟨g,h1,h2,h3,h4,h5⟩:=h;obtain⟨es,cc,hm⟩:=hm;refine⟨g,h1.grown hg (fun e=>hne (by injection e with e;exact e.symm)),fun k=>(h2 k).kept hg ?_,h3,h4,h5⟩
 by_cases hb:(zkk g k).ownBlock=some bS
 ·exact absurd hm (fun hm=>zkn (h2 k) hb hm)
 ·exact .inr hb
theorem zl8 (hs:List Hav)(pl:List Syn)(Ah Ap:Option Addr)(ch g c B:Nat)(X:World)(hAp:0<pl.length→Ap=some ⟨g,0,none⟩)(hH:z4b X (.slice Ah hs.length ch) hs)(hO:zjv X B (.slice Ap pl.length c) pl)(hOk:zf0 hs)(hsrt:z6c pl)(hfrm:∀ x∈pl,x.frm=zk4 hs x.path)
  (hB:B≤g) (hg:g<X.heap.size) (hn:pl.length≤1000) (hhn:hs.length≤10000):
  Calls prog 38 #[.slice Ah hs.length ch,.slice Ap pl.length c] X fun e w'=>e=.returned (.tuple #[])∧zjv w' B (.slice Ap pl.length c) (zeg (blB hs pl) pl)∧Below B X w':=by
 have HO:=hd_ hO;have HH:=hd_ hH;have HOK:=hd_ hOk;have HSRT:=hd_ hsrt;have HFRM:=hd_ hfrm;have hmm:=@run_makeMap prog;have HI0:Hid (Bk1 X ((X.alloc (.map #[] 0)).alloc (.map #[] 0)) X.heap.size (X.heap.size+1) (stF pl 0) (zkq pl 0)):=hd_ (by
  refine⟨((Below.refl _ _).alloc (Nat.le_refl _) _).alloc (by simp) _,(z2f.new Value.string natV X).alloc _,?_,by omega,by omega⟩
  have:=zkp.new (X.alloc (.map #[] 0)) X.heap.size;have e:(X.alloc (.map #[] 0)).heap.size=X.heap.size+1:=by simp
  rw[e] at this;exact this.upTo (by simp))
 clear hO hH hOk hsrt hfrm;go_enter func38,ntmps38;go_upto_region 2 with fail;clear hmm;try simp only[World.size_alloc]
 generalize (X.alloc (.map #[] 0)).alloc (.map #[] 0)=W0 at HI0 ⊢;go_wp2_with fail;go_loopw [20] (fun i wr=>∃ k:Nat,i=.int .i64 k∧k≤pl.length∧Hid (Bk1 X wr X.heap.size (X.heap.size+1) (stF pl k) (zkq pl k))) (fun i _=>pl.length - (intOf i).toNat)
 case atStart=>exact⟨0,rfl,Nat.zero_le _,HI0⟩
 case round =>
  obtain⟨k,rfl,hk,HJ⟩:=hrel;clear HI0;by_cases hlt:k<pl.length
  ·have HLT:=hd_ hlt;obtain rfl:=hAp (by omega)
   obtain⟨⟨y0,y1,y2,y3,y4⟩,-⟩:=zjv.cell (z0n HO.out HJ.out.low) hlt;have HSF:=hd_ (zku hlt);have HCN:=hd_ (comF_no hlt);have HCY:=hd_ (zkr hlt);generalize pl[k]=x at y0 y1 y2 y3 y4 HSF HCN HCY;have hA:Below wr.heap.size wr (wr.alloc (.cells #[.int .i64 x.kind,.string x.path,.int .i64 x.num,.string x.frm,.string x.dst] 48)):=(Below.refl _ _).alloc (Nat.le_refl _) _;have hJ1:=HJ.out.under hA;obtain⟨w3,hup,hM3,hg3,hs3⟩:=z2f.update (w:=wr.alloc (.cells #[.int .i64 x.kind,.string x.path,.int .i64 x.num,.string x.frm,.string x.dst] 48)) hJ1.st (z2d underlying9) underlying122 x.path k;have hup2:(Instr.mapUpdate 122 (.map (some X.heap.size)) (.string x.path) (.int .i64 k)).run prog (wr.alloc (.cells #[.int .i64 x.kind,.string x.path,.int .i64 x.num,.string x.frm,.string x.dst] 48))=.ok () w3:=hup;have HX3:Hid (Blk w3 wr.heap.size 48 [.int .i64 x.kind,.string x.path,.int .i64 x.num,.string x.frm,.string x.dst]):=hd_ ((z0l wr [.int .i64 x.kind,.string x.path,.int .i64 x.num,.string x.frm,.string x.dst] 48).grown hg3 (fun e=>by injection e with e;have:=HJ.out.st.lt;omega))
   have HJ3:Hid (Bk1 X w3 X.heap.size (X.heap.size+1) (stF pl (k+1)) (zkq pl k)):=hd_
    ⟨hJ1.low.grown hg3 hJ1.low.size (fun y e=>by injection e with e;omega),by rw[HSF.out];exact hM3,by rw[hs3];exact hJ1.com.grownMap hg3 hJ1.ne (zko hJ1.st),hJ1.ne,hJ1.leC⟩
   have HSZ:=hd_ HJ3.out.low.size;have hxb:=z0l wr [.int .i64 x.kind,.string x.path,.int .i64 x.num,.string x.frm,.string x.dst] 48;obtain⟨z0,z1,z2,z3,z4⟩:=z3r (x:=x) hxb;have hls:(zkq pl k x.dst).length≤1000000:=Nat.le_trans (zks _ _ _) (by omega)
   have HLS:=hd_ hls;clear hA hJ1 hup hM3 hg3 hs3 hxb hls HJ;go_upto_region 6 with fail;clear hup2 y0 y1 y2 y3 y4 z0 z1 z2 z3 z4;generalize wr.heap.size=g7 at HX3 ⊢;obtain⟨z0,z1,z2,z3,z4⟩:=z3r (x:=x) HX3.out;by_cases hd:x.dst=z2l
   ·obtain⟨s1,s2⟩:=z3v hd;have HN:Hid (Bk1 X w3 X.heap.size (X.heap.size+1) (stF pl (k+1)) (zkq pl (k+1))):=hd_ (by rw[HCN.out hd];exact HJ3.out)
    clear hd;go_wp2_with fail;go_roundw
    case rel=>exact⟨k+1,by go_num,by have:=HLT.out;omega,HN⟩
    case measure=>have:=HLT.out;simp [intOf];omega
   ·obtain⟨s1,s2⟩:=z3w hd;have HCF:=hd_ (HCY.out hd);clear hd;go_upto_region 7 with fail;refine bkR7 _ (by kernel_rfl) _ X w3 g7 X.heap.size (X.heap.size+1) (stF pl (k+1)) (zkq pl k) x k HJ3.out HX3.out HLS.out HSZ.out ?_
    intro eJ eK eL eM eN eO eP eQ eR eS w4 HN;rw[← HCF.out] at HN;go_wp2_with fail;go_roundw
    case rel=>exact⟨k+1,by go_num,by have:=HLT.out;omega,HN⟩
    case measure=>have:=HLT.out;simp [intOf];omega
  ·have hke:k=pl.length:=by omega
   subst hke;have HT:=hd_ (fun(T:Code) hT=>bkT9 T hT (fun e w'=>e=.returned (.tuple #[])∧zjv w' B (.slice Ap pl.length c) (zeg (blB hs pl) pl)∧Below B X w') X wr B g c X.heap.size (X.heap.size+1) hs pl Ah Ap ch hAp HJ.out (z0n HO.out HJ.out.low) (HJ.out.low.mono (by omega)) (Row.below HH.out HJ.out.low) HOK.out HSRT.out HFRM.out hB hg hn hhn (fun w' h1 h2=>⟨rfl,h1,h2⟩))
   clear HJ;rename ∀ a w,Code.wp _ (Code.seq (Code.region 9 _ _) _) _ a w→_=>hk7
   have HK7:=hd_ hk7;clear hk7;go_wp2_with fail;exact HK7.out _ _ (HT.out _ (by kernel_rfl) _ _ _ _ _ _ _ _ _ _ _ _ _ _ _ _ _ _ _ _ _ _ _ _ _ _ _ _ _ _ _ _ _ _ _ _ _ _ _ _ _ _ _ _ _ _ _ _ _ _ _ _ _ _ _ _ _ _ _ _ _ _ _ _ _ _ _ _ _ _ _ _ _ _ _ _ _ _ _ _ _ _ _ _ _ _ _ _ _ _ _ _ _ _ _ _ _ _ _ _ _ _ _ _ _ _ _ _ _ _ _ _ _ _ _ _ _ _ _ _ _ _ _)
theorem WsB.mono {w wr:World}{U g gw m m':Nat}{D:List Rev}{dv dr cv:Value}{l:List Cnk}(h:WsB w wr U g gw m D dv dr cv l)(hm:m≤m'):WsB w wr U g gw m' D dv dr cv l:=
 ⟨h.kept,h.tape.mono hm,h.box,h.cnk,h.revs,h.gU,h.UU,h.le,h.far⟩
structure EdK (D:List Rev)(i:Nat)(es:List Edt):Prop where
 six:∀ x∈es,∃(j:Nat) (hj:j<zff.length),j<i∧zff[j]=x.path
 nd:(es.map (·.path)).Nodup
 base:∀ x∈es,x.base=(zec (zgs D x.path)).num
 len:es.length≤i
theorem zpe:zff.Nodup:=by decide
theorem edK_0 (D:List Rev):EdK D 0 []:=⟨(fun x h=>by cases h),List.nodup_nil,(fun x h=>by cases h),Nat.le_refl _⟩
theorem EdK.skip {D:List Rev}{i:Nat}{es:List Edt}(h:EdK D i es):EdK D (i+1) es:=
 ⟨fun x hx=>by obtain⟨j,hj,h1,h2⟩:=h.six x hx;exact⟨j,hj,by omega,h2⟩,h.nd,h.base,Nat.le_succ_of_le h.len⟩
theorem EdK.push {D:List Rev}{i:Nat}{es:List Edt}{x:Edt}(h:EdK D i es)(hi:i<zff.length)(hx:x.path=zff[i])(hb:x.base=(zec (zgs D x.path)).num):EdK D (i+1) (es++[x]):=by
 refine⟨fun y hy=>?_,?_,fun y hy=>?_,by rw[List.length_append];exact Nat.succ_le_succ h.len⟩
 ·rcases List.mem_append.1 hy with hy | hy
  ·obtain⟨j,hj,h1,h2⟩:=h.six y hy;exact⟨j,hj,by omega,h2⟩
  ·rw[List.mem_singleton] at hy;subst hy;exact⟨i,hi,by omega,hx.symm⟩
 ·rw[List.map_append,List.nodup_append];refine⟨h.nd,by simp,fun a ha b hb e=>?_⟩
  obtain⟨y,hy,rfl⟩:=List.mem_map.1 ha;have hb':b=x.path:=by simpa using hb
  obtain⟨j,hj,h1,h2⟩:=h.six y hy;have e2:zff[j]=zff[i]:=by rw[h2,e,hb',hx]
  have:=(List.getElem_inj zpe).1 e2;omega
 ·rcases List.mem_append.1 hy with hy | hy
  ·exact h.base y hy
  ·rw[List.mem_singleton] at hy;subst hy;exact hb
structure zpf (w wr wx:World)(U g gw m:Nat)(D:List Rev)(dv dr cv0 cv:Value)(l:List Cnk)(g6 g7 gp B:Nat)(num:Int)(es:List Edt)(ev:Value):Prop where
 ws:WsB w wx U g gw m D dv dr cv l
 frm:Frm wr wx g gw cv0 cv
 b6:Blk wx g6 95 [.int .i64 0,.string ⟨#[]⟩,.string ⟨#[]⟩,.slice none 0 0,.slice none 0 0]
 b7:Blk wx g7 95 [.int .i64 num,.string ⟨#[]⟩,.string ⟨#[]⟩,ev,.slice none 0 0]
 bp:Blk wx gp 9 (zff.map .string)
 own:wx.ownsRow B 90 12 ev es.length (es.flatMap Edt.cells)
 ord:wr.heap.size≤g6∧g6<g7∧g7<gp∧gp<B∧B≤wx.heap.size
 lo:w.heap.size≤wr.heap.size∧gw<wr.heap.size∧∀ x,dv.ownBlock=some x→x<wr.heap.size
theorem zpg {w w':World}{B k n:Nat}{e:TypeId}{v:Value}{xs:List Value}(h:w.ownsRow B e k v n xs)(hk:∀ x,v.ownBlock=some x→w'.heap[x]? = w.heap[x]?):w'.ownsRow B e k v n xs:=by
 refine⟨h.1,?_⟩;rcases h.2 with e1 | ⟨g,cap,cur,e1,h1,h2,h3⟩
 ·exact .inl e1
 ·exact .inr ⟨g,cap,cur,e1,h1,(hk g (by rw[e1];rfl)).trans h2,h3⟩
theorem WsB.grownAt {w wr w':World}{U g gw m:Nat}{D:List Rev}{dv dr cv:Value}{l:List Cnk}{row:Option Nat}(h:WsB w wr U g gw m D dv dr cv l)(hg:wr.grownBy w' row)(hr:∀ k,row=some k→w.heap.size≤k∧k≠gw∧cv.ownBlock≠some k∧dv.ownBlock≠some k):WsB w w' U g gw m D dv dr cv l:=by
 have hK:z6t [g] w w':=h.kept.grown_own hg (fun k e=>(hr k e).1);have h1:=h.UU;refine⟨hK,h.tape.keep hg.size (fun x hx=>hg.block x (by have:=h.kept.size;omega) (fun e=>by have:=(hr x e.symm).1;omega)),h.box.grown hg (fun e=>(hr gw e.symm).2.1 rfl),zpg h.cnk (fun x hx=>hg.block x (h.cnk.lt x hx).2 (fun e=>(hr x e.symm).2.2.1 hx)),Row.heap h.revs hg.size (fun x hx e=>hg.block x hx (fun e2=>(hr x e2.symm).2.2.2 e)),h.gU,h1,h.le,fun x hx=>⟨(h.far x hx).1,Nat.lt_of_lt_of_le (h.far x hx).2.1 hg.size,(h.far x hx).2.2⟩⟩
theorem Frm.grownAt {wr wx w':World}{g gw:Nat}{cv cv':Value}{row:Option Nat}(h:Frm wr wx g gw cv cv')(hg:wx.grownBy w' row)(hr:∀ k,row=some k→wr.heap.size≤k):Frm wr w' g gw cv cv':=
 ⟨hg.os.trans h.os,hg.tape.trans h.tape,hg.output.trans h.output,Nat.le_trans h.size hg.size,fun k hk h1 h2 h3=>(hg.block k (Nat.lt_of_lt_of_le hk h.size) (fun e=>by have:=hr k e.symm;omega)).trans (h.block k hk h1 h2 h3),h.ob⟩
theorem zph {w:World}{B1 B2 k1 k2 n1 n2 x:Nat}{e1 e2:TypeId}{v1 v2:Value}{xs ys:List Value}(h1:w.ownsRow B1 e1 k1 v1 n1 xs)(h2:w.ownsRow B2 e2 k2 v2 n2 ys)(he:e1≠e2)(hx:v1.ownBlock=some x):v2.ownBlock≠some x:=by
 intro hy;rcases h1.2 with⟨rfl,_⟩ | ⟨g,cap,cur,rfl,_,hg,_⟩
 ·cases hx
 ·rcases h2.2 with⟨rfl,_⟩ | ⟨g',cap',cur',rfl,_,hg',_⟩
  ·cases hy
  ·injection hx with hx
   injection hy with hy
   have e:g=g':=hx.trans hy.symm;subst e;rw[hg] at hg';injection hg' with hg'
   injection hg' with _ h2 _
   exact he h2
section
variable {w wr wx w' : World} {U g gw m m' g6 g7 gp B : Nat} {D : List Rev} {dv dr cv0 cv cv' ev : Value} {l l' : List Cnk} {num : Int} {es : List Edt}
theorem zpf.step (h:zpf w wr wx U g gw m D dv dr cv0 cv l g6 g7 gp B num es ev)(hF:Frm wx w' g gw cv cv')(hS:WsB w w' U g gw m' D dv dr cv' l'):zpf w wr w' U g gw m' D dv dr cv0 cv' l' g6 g7 gp B num es ev:=by
 obtain⟨o1,o2,o3,o4,o5⟩:=h.ord;have h1:=h.ws.gU;have h2:=h.ws.UU;have h3:=h.ws.le;have h4:=h.ws.kept.size;have h5:=h.frm.size;have h6:=h.lo;refine⟨hS,h.frm.trans hF,hF.blk h.b6 (by omega) (by omega) (zky h.ws.cnk h.b6 (by decide)),hF.blk h.b7 (by omega) (by omega) (zky h.ws.cnk h.b7 (by decide)),hF.blk h.bp (by omega) (by omega) (zky h.ws.cnk h.bp (by decide)),?_,⟨o1,o2,o3,o4,Nat.le_trans o5 hF.size⟩,h.lo⟩
 refine zpg h.own fun x hx=>?_;have hlt:=h.own.lt x hx;exact hF.block x hlt.2 (by omega) (by omega) (zph h.own h.ws.cnk (by decide) hx)
theorem zpf.next (h:zpf w wr wx U g gw m D dv dr cv0 cv l g6 g7 gp B num es ev)(hK:z6t [g] wx w')(hT:zgf w' U g m'):zpf w wr w' U g gw m' D dv dr cv0 cv l g6 g7 gp B num es ev:=h.step (Frm.of_kept hK) (h.ws.next hK hT)
theorem zpf.under (h:zpf w wr wx U g gw m D dv dr cv0 cv l g6 g7 gp B num es ev)(hb:Below wx.heap.size wx w'):zpf w wr w' U g gw m D dv dr cv0 cv l g6 g7 gp B num es ev:=h.next (z6t.below hb) (h.ws.tape.below hb)
theorem zpf.grownAt {row:Option Nat}(h:zpf w wr wx U g gw m D dv dr cv0 cv l g6 g7 gp B num es ev)(hg:wx.grownBy w' row)(hr:∀ k,row=some k→B≤k∧cv.ownBlock≠some k∧ev.ownBlock≠some k):zpf w wr w' U g gw m D dv dr cv0 cv l g6 g7 gp B num es ev:=by
 obtain⟨o1,o2,o3,o4,o5⟩:=h.ord;obtain⟨l1,l2,l3⟩:=h.lo;have hn:∀ k,k<B→some k≠row:=fun k hk e=>by have:=(hr k e.symm).1;omega
 exact⟨h.ws.grownAt hg (fun k e=>⟨by have:=(hr k e).1;omega,by have:=(hr k e).1;omega,(hr k e).2.1,fun e2=>by have:=l3 k e2;have:=(hr k e).1;omega⟩),h.frm.grownAt hg (fun k e=>by have:=(hr k e).1;omega),h.b6.grown hg (hn g6 (by omega)),h.b7.grown hg (hn g7 (by omega)),h.bp.grown hg (hn gp (by omega)),zpg h.own (fun x hx=>hg.block x (h.own.lt x hx).2 (fun e=>(hr x e.symm).2.2 hx)),⟨o1,o2,o3,o4,Nat.le_trans o5 hg.size⟩,h.lo⟩
theorem zpf.push {w5:World}{ev':Value}{es':List Edt}(h:zpf w wr wx U g gw m D dv dr cv0 cv l g6 g7 gp B num es ev)(hg:wx.grownBy w5 ev.ownBlock)(ho:w5.ownsRow B 90 12 ev' es'.length (es'.flatMap Edt.cells)):
  (w5.cell? ⟨g7,3,none⟩=some ev∧w5.frozen? ⟨g7,3,none⟩=false)∧zpf w wr (w5.setCell ⟨g7,3,none⟩ ev') U g gw m D dv dr cv0 cv l g6 g7 gp B num es' ev':=by
 obtain⟨o1,o2,o3,o4,o5⟩:=h.ord;obtain⟨l1,l2,l3⟩:=h.lo;have hlt:=h.own.lt;have hn:∀ k,k<B→some k≠ev.ownBlock:=fun k hk e=>by have:=(hlt k e.symm).1;omega
 have hws:=h.ws.grownAt hg (fun k e=>⟨by have:=(hlt k e).1;omega,by have:=(hlt k e).1;omega,zph h.own h.ws.cnk (by decide) e,fun e2=>by have:=l3 k e2;have:=(hlt k e).1;omega⟩)
 have hfr:=h.frm.grownAt hg (fun k e=>by have:=(hlt k e).1;omega)
 have hb7:=h.b7.grown hg (hn g7 (by omega))
 have hg2:=z6u w5 g7 3 ev';have hcn:cv.ownBlock≠some g7:=zky hws.cnk hb7 (by decide)
 refine⟨⟨hb7.cell 3,hb7.frozen 3⟩,hws.grownAt hg2 (fun k e=>by injection e with e;subst e;exact⟨by omega,by omega,hcn,fun e2=>by have:=l3 g7 e2;omega⟩),hfr.grownAt hg2 (fun k e=>by injection e with e;omega),Blk.far (h.b6.grown hg (hn g6 (by omega))) (by show g7≠g6;omega) _,hb7.set_ 3 ev',Blk.far (h.bp.grown hg (hn gp (by omega))) (by show g7≠gp;omega) _,z4r ho (p:=⟨g7,3,none⟩) (fun e=>by have:=(ho.lt g7 e).1;omega) _,⟨o1,o2,o3,o4,Nat.le_trans o5 (Nat.le_trans hg.size hg2.size)⟩,h.lo⟩
end
section
variable {u0 u1 u2 u3 u4 u5 u6 u7 u8 u9 gn gt gu gx gy gz gA gC gD gE gF gG gH gI gJ gK gL gM gN gO gP gQ gR gT gV gW gX gY gZ i6 i7 i8 ia ib ic ie ig ii ij ik il im io ip iq ir iu iv iw ix iy iz iA iB iC iD iE iF iG iH iI iJ iK iL iM iN iO iP iQ iR iS iT iU iV iW iX iY iZ j0 j1 j2 j5 j6 j7 j8 j9 jb jd je jf bw bz bA bB bD bE bF bG bH bI bJ bK bL bM bN bO bP bQ bT bU bV bW bX bY bZ ca cj ck cn cx cy cz cA cB cD cE cG cH cI cJ cM cN cO cP cQ cT cU cW cZ da db dc dd de df dg dh di dj dm du dw dz dA dB dC dD dE dF dG dH dI dJ dK dL dM dN dO dP dQ dR dS dT dU dV dW dX dY dZ ec : Value}
theorem chR16 (ops:Array Oper)(hops:Tryz.f59.body.bind (zci 16)=some ops)(Q:Exit→Act→World→Prop)(V:World)(g gw g18 g20:Nat)(v:Rev)(x:Edt)(F:World→Prop)(h18:Blk V g18 66 [.string v.path,.int .i64 v.num,.int .i64 v.chg,.int .i64 v.act,.int .i64 v.ty.base,.bool v.ty.k,.bool v.ty.l,.bool v.ty.x,.int .u64 v.sum,.int .i64 v.size,.string v.frm,.int .i64 v.fnum])(hne:g20≠g18)
  (hCO:∀ X,Below V.heap.size V X→Calls prog 91 #[.pointer (some ⟨gw,0,none⟩),.pointer (some ⟨g,0,none⟩)] X fun e w'=>∃ s z:Nat,e=.returned (.agg #[.int .u64 s,.int .i64 z])∧Blk w' g18 66 [.string v.path,.int .i64 v.num,.int .i64 v.chg,.int .i64 v.act,.int .i64 v.ty.base,.bool v.ty.k,.bool v.ty.l,.bool v.ty.x,.int .u64 v.sum,.int .i64 v.size,.string v.frm,.int .i64 v.fnum]∧Blk w' g20 90 [.string x.path,.int .i64 x.act,.int .i64 x.ty.base,.bool x.ty.k,.bool x.ty.l,.bool x.ty.x,.int .u64 x.sum,.int .i64 x.size,.int .i64 x.base,.string x.frm,.int .i64 x.fnum,.int .i64 x.fence]∧F w')
  (hQ:∀(ab ac af ag ah ai aj ak:Value) (s z:Nat) (w8 w':World),F w8→Blk w' g20 90 [.string x.path,.int .i64 2,.int .i64 v.ty.base,.bool v.ty.k,.bool v.ty.l,.bool v.ty.x,.int .u64 s,.int .i64 z,.int .i64 x.base,.string x.frm,.int .i64 x.fnum,.int .i64 x.fence]→Blk w8 g18 66 [.string v.path,.int .i64 v.num,.int .i64 v.chg,.int .i64 v.act,.int .i64 v.ty.base,.bool v.ty.k,.bool v.ty.l,.bool v.ty.x,.int .u64 v.sum,.int .i64 v.size,.string v.frm,.int .i64 v.fnum]→w8.grownBy w' (some g20)→Q .normal ⟨#[.pointer (some ⟨gw,0,none⟩),.pointer (some ⟨g,0,none⟩),u2,u3,u4,u5,u6,u7,u8,u9,gn,gt,gu,gx,gy,gz,gA,gC,.pointer (some ⟨g18,0,none⟩),gE,.pointer (some ⟨g20,0,none⟩),gG,gH,gI,gJ,gK,gL,gM,gN,gO,gP,gQ,gR,gT,gV,gW,gX,gY,gZ,i6,i7,i8,ia,ib,ic,ie,ig,ii,ij,ik,il,im,io,ip,iq,ir,iu,iv,iw,ix,iy,iz,iA,iB,iC,iD,iE,iF,iG,iH,iI,iJ,iK,iL,iM,iN,iO,iP,iQ,iR,iS,iT,iU,iV,iW,iX,iY,iZ,j0,j1,j2,j5,j6,j7,j8,j9,jb,jd,je,jf,bw,bz,ab,ac,af,ag,ah,ai,aj,ak,bJ,bK,bL,bM,bN,bO,bP,bQ,bT,bU,bV,bW,bX,bY,bZ,ca,cj,ck,cn,cx,cy,cz,cA,cB,cD,cE,cG,cH,cI,cJ,cM,cN,cO,cP,cQ,cT,cU,cW,cZ,da,db,dc,dd,de,df,dg,dh,di,dj,dm,du,dw,dz,dA,dB,dC,dD,dE,dF,dG,dH,dI,dJ,dK,dL,dM,dN,dO,dP,dQ,dR,dS,dT,dU,dV,dW,dX,dY,dZ,ec],[]⟩ w'):
  (Code.region 16 ops true).wp prog Q ⟨#[.pointer (some ⟨gw,0,none⟩),.pointer (some ⟨g,0,none⟩),u2,u3,u4,u5,u6,u7,u8,u9,gn,gt,gu,gx,gy,gz,gA,gC,.pointer (some ⟨g18,0,none⟩),gE,.pointer (some ⟨g20,0,none⟩),gG,gH,gI,gJ,gK,gL,gM,gN,gO,gP,gQ,gR,gT,gV,gW,gX,gY,gZ,i6,i7,i8,ia,ib,ic,ie,ig,ii,ij,ik,il,im,io,ip,iq,ir,iu,iv,iw,ix,iy,iz,iA,iB,iC,iD,iE,iF,iG,iH,iI,iJ,iK,iL,iM,iN,iO,iP,iQ,iR,iS,iT,iU,iV,iW,iX,iY,iZ,j0,j1,j2,j5,j6,j7,j8,j9,jb,jd,je,jf,bw,bz,bA,bB,bD,bE,bF,bG,bH,bI,bJ,bK,bL,bM,bN,bO,bP,bQ,bT,bU,bV,bW,bX,bY,bZ,ca,cj,ck,cn,cx,cy,cz,cA,cB,cD,cE,cG,cH,cI,cJ,cM,cN,cO,cP,cQ,cT,cU,cW,cZ,da,db,dc,dd,de,df,dg,dh,di,dj,dm,du,dw,dz,dA,dB,dC,dD,dE,dF,dG,dH,dI,dJ,dK,dL,dM,dN,dO,dP,dQ,dR,dS,dT,dU,dV,dW,dX,dY,dZ,ec],[]⟩ V:=by
 simp only[Tryz.f59,Option.bind_some,zci] at hops
 simp at hops
 subst hops;have HQ:=hd_ hQ;have HCO:=hd_ hCO;obtain⟨r0,r1,r2,r3,r4,r5,r6,r7,r8,r9,r10,r11⟩:=z7z h18;have hne2:¬(g18=g20):=fun e=>hne e.symm;clear hQ h18 hCO;refine wp_region_noPanic ?_;go_region_law (first
  | (go_simp;go_at_call 91;refine (HCO.out _ (by repeat (first | exact Below.refl _ _ | refine Below.drew ?_))).mono ?_;rintro e w8 ⟨s,z,rfl,h18,h20,hF⟩;obtain⟨p0,p1,p2,p3,p4,p5,p6,p7,p8,p9,p10,p11⟩:=z7z h18;obtain⟨x0,x1,x2,x3,x4,x5,x6,x7,x8,x9,x10,x11⟩:=z7z h20;obtain⟨f0,f1,f2,f3,f4,f5,f6,f7,f8,f9,f10,f11⟩:=zdz h20))
 all_goals refine NoPanic.normal ?_
 all_goals first
  | exact HQ.out _ _ _ _ _ _ _ _ s z w8 _ hF ((((((((h20).set_ 1 (.int .i64 2)).set_ 2 (.int .i64 v.ty.base)).set_ 3 (.bool v.ty.k)).set_ 4 (.bool v.ty.l)).set_ 5 (.bool v.ty.x)).set_ 6 (.int .u64 s)).set_ 7 (.int .i64 z)) h18 (zpb (zpb (zpb (zpb (zpb (zpb (zpb (zpd _ _) 1 (.int .i64 2)) 2 (.int .i64 v.ty.base)) 3 (.bool v.ty.k)) 4 (.bool v.ty.l)) 5 (.bool v.ty.x)) 6 (.int .u64 s)) 7 (.int .i64 z))
  | exact HQ.out _ _ _ _ _ _ _ _ s z w8 _ hF (Blk.drew' ((((((((h20).set_ 1 (.int .i64 2)).set_ 2 (.int .i64 v.ty.base)).set_ 3 (.bool v.ty.k)).set_ 4 (.bool v.ty.l)).set_ 5 (.bool v.ty.x)).set_ 6 (.int .u64 s)).set_ 7 (.int .i64 z))) h18 (zpc (zpb (zpb (zpb (zpb (zpb (zpb (zpb (zpd _ _) 1 (.int .i64 2)) 2 (.int .i64 v.ty.base)) 3 (.bool v.ty.k)) 4 (.bool v.ty.l)) 5 (.bool v.ty.x)) 6 (.int .u64 s)) 7 (.int .i64 z)))
end
section
variable {u0 u1 u2 u3 u4 u5 u6 u7 u8 u9 gn gt gu gx gy gz gA gC gD gE gF gG gH gI gJ gK gL gM gN gO gP gQ gR gT gV gW gX gY gZ i6 i7 i8 ia ib ic ie ig ii ij ik il im io ip iq ir iu iv iw ix iy iz iA iB iC iD iE iF iG iH iI iJ iK iL iM iN iO iP iQ iR iS iT iU iV iW iX iY iZ j0 j1 j2 j5 j6 j7 j8 j9 jb jd je jf bw bz bA bB bD bE bF bG bH bI bJ bK bL bM bN bO bP bQ bT bU bV bW bX bY bZ ca cj ck cn cx cy cz cA cB cD cE cG cH cI cJ cM cN cO cP cQ cT cU cW cZ da db dc dd de df dg dh di dj dm du dw dz dA dB dC dD dE dF dG dH dI dJ dK dL dM dN dO dP dQ dR dS dT dU dV dW dX dY dZ ec : Value}
theorem chR14 (ops:Array Oper)(hops:Tryz.f59.body.bind (zci 14)=some ops)(Q:Exit→Act→World→Prop)(V:World)(gw gp k n cr:Nat)(Ar:Option Addr)(dr:Value)(p:ByteArray)(v:Rev)(bo:Bool)
  (hC:∀ w',Below V.heap.size V w'→w'.cell? ⟨gw,0,none⟩=some (.slice Ar n cr)∧w'.cell? ⟨gw,1,none⟩=some dr∧w'.cell? ⟨gp,k,none⟩=some (.string p)) (hk:(k:Int)<6)
  (hL:∀ X,Below V.heap.size V X→Calls prog 90 #[.agg #[.slice Ar n cr,dr],.string p] X fun e w'=>e=.returned (.tuple #[.agg #[.string v.path,.int .i64 v.num,.int .i64 v.chg,.int .i64 v.act,.int .i64 v.ty.base,.bool v.ty.k,.bool v.ty.l,.bool v.ty.x,.int .u64 v.sum,.int .i64 v.size,.string v.frm,.int .i64 v.fnum],.bool bo])∧Below X.heap.size X w')
  (hQ:∀(fS fT fU fV fW fX fY fZ ga gb gf gg tb:Value) (g:Nat) (w':World),Blk w' g 66 [.string v.path,.int .i64 v.num,.int .i64 v.chg,.int .i64 v.act,.int .i64 v.ty.base,.bool v.ty.k,.bool v.ty.l,.bool v.ty.x,.int .u64 v.sum,.int .i64 v.size,.string v.frm,.int .i64 v.fnum]→V.heap.size≤g→Below V.heap.size V w'→Q .normal ⟨#[.pointer (some ⟨gw,0,none⟩),u1,u2,u3,u4,u5,u6,u7,.slice (some ⟨gp,0,none⟩) 6 6,u9,gn,gt,gu,gx,gy,.int .i64 k,gA,gC,.pointer (some ⟨g,0,none⟩),tb,gF,gG,gH,gI,gJ,gK,gL,gM,gN,gO,gP,gQ,gR,gT,gV,gW,gX,gY,gZ,i6,i7,i8,ia,ib,ic,ie,ig,ii,ij,ik,il,im,io,ip,iq,ir,iu,iv,iw,ix,iy,iz,iA,iB,iC,iD,iE,iF,iG,iH,iI,iJ,iK,iL,iM,iN,iO,iP,iQ,iR,iS,iT,iU,iV,fS,fT,fU,fV,fW,fX,fY,fZ,ga,gb,gf,gg,jb,jd,je,jf,bw,bz,bA,bB,bD,bE,bF,bG,bH,bI,bJ,bK,bL,bM,bN,bO,bP,bQ,bT,bU,bV,bW,bX,bY,bZ,ca,cj,ck,cn,cx,cy,cz,cA,cB,cD,cE,cG,cH,cI,cJ,cM,cN,cO,cP,cQ,cT,cU,cW,cZ,da,db,dc,dd,de,df,dg,dh,di,dj,dm,du,dw,dz,dA,dB,dC,dD,dE,dF,dG,dH,dI,dJ,dK,dL,dM,dN,dO,dP,dQ,dR,dS,dT,dU,dV,dW,dX,dY,dZ,ec],[]⟩ w'):
  (Code.region 14 ops true).wp prog Q ⟨#[.pointer (some ⟨gw,0,none⟩),u1,u2,u3,u4,u5,u6,u7,.slice (some ⟨gp,0,none⟩) 6 6,u9,gn,gt,gu,gx,gy,.int .i64 k,gA,gC,gD,gE,gF,gG,gH,gI,gJ,gK,gL,gM,gN,gO,gP,gQ,gR,gT,gV,gW,gX,gY,gZ,i6,i7,i8,ia,ib,ic,ie,ig,ii,ij,ik,il,im,io,ip,iq,ir,iu,iv,iw,ix,iy,iz,iA,iB,iC,iD,iE,iF,iG,iH,iI,iJ,iK,iL,iM,iN,iO,iP,iQ,iR,iS,iT,iU,iV,iW,iX,iY,iZ,j0,j1,j2,j5,j6,j7,j8,j9,jb,jd,je,jf,bw,bz,bA,bB,bD,bE,bF,bG,bH,bI,bJ,bK,bL,bM,bN,bO,bP,bQ,bT,bU,bV,bW,bX,bY,bZ,ca,cj,ck,cn,cx,cy,cz,cA,cB,cD,cE,cG,cH,cI,cJ,cM,cN,cO,cP,cQ,cT,cU,cW,cZ,da,db,dc,dd,de,df,dg,dh,di,dj,dm,du,dw,dz,dA,dB,dC,dD,dE,dF,dG,dH,dI,dJ,dK,dL,dM,dN,dO,dP,dQ,dR,dS,dT,dU,dV,dW,dX,dY,dZ,ec],[]⟩ V:=by
 simp only[Tryz.f59,Option.bind_some,zci] at hops
 simp at hops
 subst hops;have HQ:=hd_ hQ;have HLZ:=hd_ hL;have hVA:Below V.heap.size V (V.alloc (.cells #[.string ⟨#[]⟩,.int .i64 0,.int .i64 0,.int .i64 0,.int .i64 0,.bool false,.bool false,.bool false,.int .u64 0,.int .i64 0,.string ⟨#[]⟩,.int .i64 0] 66)).drew:=((Below.refl _ _).alloc (Nat.le_refl _) _).drew;obtain⟨x0,x1,x2⟩:=hC V (Below.refl _ _);obtain⟨y0,y1,y2⟩:=hC _ hVA;clear hVA hC hQ hL;refine wp_region_noPanic ?_;go_region_law (first
  | (go_simp;go_at_call 90;refine (HLZ.out _ (by repeat (first | exact Below.refl _ _ | refine Below.drew ?_ | refine zcf ?_ _))).mono ?_;rintro e w8 ⟨rfl,hX8⟩;have hS8:Below V.heap.size V w8:=(by repeat (first | exact Below.refl _ _ | refine Below.drew ?_ | refine zcf ?_ _):Below V.heap.size V _).trans (hX8.mono (by simp));(try (have hblk:=Blk.below (Blk.drew' (z0l V [.string ⟨#[]⟩,.int .i64 0,.int .i64 0,.int .i64 0,.int .i64 0,.bool false,.bool false,.bool false,.int .u64 0,.int .i64 0,.string ⟨#[]⟩,.int .i64 0] 66)) hX8 (by simp);obtain⟨p0,p1,p2,p3,p4,p5,p6,p7,p8,p9,p10,p11⟩:=z7z hblk;obtain⟨r0,r1,r2,r3,r4,r5,r6,r7,r8,r9,r10,r11⟩:=zdz hblk))))
 all_goals refine NoPanic.normal ?_
 all_goals first
  | exact HQ.out _ _ _ _ _ _ _ _ _ _ _ _ _ _ _ (ze0 hblk v) (Nat.le_refl _) (ze1 hS8 (Nat.le_refl _) v)
  | exact HQ.out _ _ _ _ _ _ _ _ _ _ _ _ _ _ _ (z0l w8 [.string v.path,.int .i64 v.num,.int .i64 v.chg,.int .i64 v.act,.int .i64 v.ty.base,.bool v.ty.k,.bool v.ty.l,.bool v.ty.x,.int .u64 v.sum,.int .i64 v.size,.string v.frm,.int .i64 v.fnum] 66) hS8.size (hS8.alloc hS8.size _)
theorem chR22 (ops:Array Oper)(hops:Tryz.f59.body.bind (zci 22)=some ops)(Q:Exit→Act→World→Prop)(V:World)(gw gp k n cr:Nat)(Ar:Option Addr)(dr:Value)(p:ByteArray)(v:Rev)(bo:Bool)
  (hC:∀ w',Below V.heap.size V w'→w'.cell? ⟨gw,0,none⟩=some (.slice Ar n cr)∧w'.cell? ⟨gw,1,none⟩=some dr∧w'.cell? ⟨gp,k,none⟩=some (.string p)) (hk:(k:Int)<6)
  (hL:∀ X,Below V.heap.size V X→Calls prog 90 #[.agg #[.slice Ar n cr,dr],.string p] X fun e w'=>e=.returned (.tuple #[.agg #[.string v.path,.int .i64 v.num,.int .i64 v.chg,.int .i64 v.act,.int .i64 v.ty.base,.bool v.ty.k,.bool v.ty.l,.bool v.ty.x,.int .u64 v.sum,.int .i64 v.size,.string v.frm,.int .i64 v.fnum],.bool bo])∧Below X.heap.size X w')
  (hQ:∀(aF aG aH aI aJ aK aL aM aN aO aP aQ tb:Value) (g:Nat) (w':World),Blk w' g 66 [.string v.path,.int .i64 v.num,.int .i64 v.chg,.int .i64 v.act,.int .i64 v.ty.base,.bool v.ty.k,.bool v.ty.l,.bool v.ty.x,.int .u64 v.sum,.int .i64 v.size,.string v.frm,.int .i64 v.fnum]→V.heap.size≤g→Below V.heap.size V w'→Q .normal ⟨#[.pointer (some ⟨gw,0,none⟩),u1,u2,u3,u4,u5,u6,u7,.slice (some ⟨gp,0,none⟩) 6 6,.int .i64 k,gn,gt,gu,gx,gy,gz,gA,gC,gD,gE,gF,.pointer (some ⟨g,0,none⟩),tb,gI,gJ,gK,gL,gM,gN,gO,gP,gQ,gR,gT,gV,gW,gX,gY,gZ,i6,i7,i8,ia,ib,ic,ie,ig,ii,ij,ik,il,im,io,ip,iq,ir,iu,iv,iw,ix,iy,iz,iA,iB,iC,iD,iE,iF,iG,iH,iI,iJ,iK,iL,iM,iN,iO,iP,iQ,iR,iS,iT,iU,iV,iW,iX,iY,iZ,j0,j1,j2,j5,j6,j7,j8,j9,jb,jd,je,jf,bw,bz,bA,bB,bD,bE,bF,bG,bH,bI,bJ,bK,bL,bM,bN,bO,bP,bQ,bT,bU,bV,bW,bX,bY,bZ,ca,cj,ck,aF,aG,aH,aI,aJ,aK,aL,aM,aN,aO,aP,aQ,cM,cN,cO,cP,cQ,cT,cU,cW,cZ,da,db,dc,dd,de,df,dg,dh,di,dj,dm,du,dw,dz,dA,dB,dC,dD,dE,dF,dG,dH,dI,dJ,dK,dL,dM,dN,dO,dP,dQ,dR,dS,dT,dU,dV,dW,dX,dY,dZ,ec],[]⟩ w'):
  (Code.region 22 ops true).wp prog Q ⟨#[.pointer (some ⟨gw,0,none⟩),u1,u2,u3,u4,u5,u6,u7,.slice (some ⟨gp,0,none⟩) 6 6,.int .i64 k,gn,gt,gu,gx,gy,gz,gA,gC,gD,gE,gF,gG,gH,gI,gJ,gK,gL,gM,gN,gO,gP,gQ,gR,gT,gV,gW,gX,gY,gZ,i6,i7,i8,ia,ib,ic,ie,ig,ii,ij,ik,il,im,io,ip,iq,ir,iu,iv,iw,ix,iy,iz,iA,iB,iC,iD,iE,iF,iG,iH,iI,iJ,iK,iL,iM,iN,iO,iP,iQ,iR,iS,iT,iU,iV,iW,iX,iY,iZ,j0,j1,j2,j5,j6,j7,j8,j9,jb,jd,je,jf,bw,bz,bA,bB,bD,bE,bF,bG,bH,bI,bJ,bK,bL,bM,bN,bO,bP,bQ,bT,bU,bV,bW,bX,bY,bZ,ca,cj,ck,cn,cx,cy,cz,cA,cB,cD,cE,cG,cH,cI,cJ,cM,cN,cO,cP,cQ,cT,cU,cW,cZ,da,db,dc,dd,de,df,dg,dh,di,dj,dm,du,dw,dz,dA,dB,dC,dD,dE,dF,dG,dH,dI,dJ,dK,dL,dM,dN,dO,dP,dQ,dR,dS,dT,dU,dV,dW,dX,dY,dZ,ec],[]⟩ V:=by
 simp only[Tryz.f59,Option.bind_some,zci] at hops
 simp at hops
 subst hops;have HQ:=hd_ hQ;have HLZ:=hd_ hL;have hVA:Below V.heap.size V (V.alloc (.cells #[.string ⟨#[]⟩,.int .i64 0,.int .i64 0,.int .i64 0,.int .i64 0,.bool false,.bool false,.bool false,.int .u64 0,.int .i64 0,.string ⟨#[]⟩,.int .i64 0] 66)).drew:=((Below.refl _ _).alloc (Nat.le_refl _) _).drew;obtain⟨x0,x1,x2⟩:=hC V (Below.refl _ _);obtain⟨y0,y1,y2⟩:=hC _ hVA;clear hVA hC hQ hL;refine wp_region_noPanic ?_;go_region_law (first
  | (go_simp;go_at_call 90;refine (HLZ.out _ (by repeat (first | exact Below.refl _ _ | refine Below.drew ?_ | refine zcf ?_ _))).mono ?_;rintro e w8 ⟨rfl,hX8⟩;have hS8:Below V.heap.size V w8:=(by repeat (first | exact Below.refl _ _ | refine Below.drew ?_ | refine zcf ?_ _):Below V.heap.size V _).trans (hX8.mono (by simp));(try (have hblk:=Blk.below (Blk.drew' (z0l V [.string ⟨#[]⟩,.int .i64 0,.int .i64 0,.int .i64 0,.int .i64 0,.bool false,.bool false,.bool false,.int .u64 0,.int .i64 0,.string ⟨#[]⟩,.int .i64 0] 66)) hX8 (by simp);obtain⟨p0,p1,p2,p3,p4,p5,p6,p7,p8,p9,p10,p11⟩:=z7z hblk;obtain⟨r0,r1,r2,r3,r4,r5,r6,r7,r8,r9,r10,r11⟩:=zdz hblk))))
 all_goals refine NoPanic.normal ?_
 all_goals first
  | exact HQ.out _ _ _ _ _ _ _ _ _ _ _ _ _ _ _ (ze0 hblk v) (Nat.le_refl _) (ze1 hS8 (Nat.le_refl _) v)
  | exact HQ.out _ _ _ _ _ _ _ _ _ _ _ _ _ _ _ (z0l w8 [.string v.path,.int .i64 v.num,.int .i64 v.chg,.int .i64 v.act,.int .i64 v.ty.base,.bool v.ty.k,.bool v.ty.l,.bool v.ty.x,.int .u64 v.sum,.int .i64 v.size,.string v.frm,.int .i64 v.fnum] 66) hS8.size (hS8.alloc hS8.size _)
end
def ChPost (w wr:World)(U g gw m:Nat)(D:List Rev)(dv dr cv:Value)(n:Nat)(num:Int)(e:Ending)(w':World):Prop:=∃(ev:Value) (es:List Edt) (cv':Value) (l':List Cnk),e=.returned (.agg #[.int .i64 num,.string ⟨#[]⟩,.string ⟨#[]⟩,ev,.slice none 0 0])∧z47 w' ev es∧EdK D 6 es∧WsB w w' U g gw m D dv dr cv' l'∧l'.length≤n+6∧Frm wr w' g gw cv cv'
theorem edtElem:z0e prog 93 90 12 96:=z0f underlying93 (z:=z2n.val) (by kernel_rfl) rfl (by decide)
theorem chT10 (T:Code)(hT:Tryz.f59.body.bind (zhv 10)=some T){w we W3:World}{U g gw m g6 g7 gp B n0:Nat}{D:List Rev}{dr cv:Value}{l:List Cnk}{Ar:Option Addr}{cr:Nat}{num a c:Int}(hm:m≤80000)(hD:D.length≤1000)(hl:l.length=n0)(hn0:n0≤50000)
  (hac:a=-1∧c=-1∨(0≤a∧a<6)∧0≤c∧c<6) (hS:zpf w we W3 U g gw m D (.slice Ar D.length cr) dr cv cv l g6 g7 gp B num [] (.slice none 0 0))
  (u3 u4 u5 gt gu gx gy gz gA gC gD gE gF gG gH gI gJ gK gL gM gN gO gP gQ gR gT gV gW gX gY gZ i6 i7 i8 ia ib ic ie ig ii ij ik il im io ip iq ir iu iv iw ix iy iz iA iB iC iD iE iF iG iH iI iJ iK iL iM iN iO iP iQ iR iS iT iU iV iW iX iY iZ j0 j1 j2 j5 j6 j7 j8 j9 jb jd je jf bw bz bA bB bD bE bF bG bH bI bJ bK bL bM bN bO bP bQ bT bU bV bW bX bY bZ ca cj ck cn cx cy cz cA cB cD cE cG cH cI cJ cM cN cO cP cQ cT cU cW cZ da db dc dd de df dg dh di dj dm du dw dz dA dB dC dD dE dF dG dH dI dJ dK dL dM dN dO dP dQ dR dS dT dU dV dW dX dY dZ ec:Value):
  T.wp prog (bodyPost prog Tryz.f59 (ChPost w we U g gw (m+67) D (.slice Ar D.length cr) dr cv n0 num)) ⟨#[.pointer (some ⟨gw,0,none⟩),.pointer (some ⟨g,0,none⟩),.int .i64 num,u3,u4,u5,.pointer (some ⟨g6,0,none⟩),.pointer (some ⟨g7,0,none⟩),.slice (some ⟨gp,0,none⟩) 6 6,.int .i64 a,.int .i64 c,gt,gu,gx,gy,gz,gA,gC,gD,gE,gF,gG,gH,gI,gJ,gK,gL,gM,gN,gO,gP,gQ,gR,gT,gV,gW,gX,gY,gZ,i6,i7,i8,ia,ib,ic,ie,ig,ii,ij,ik,il,im,io,ip,iq,ir,iu,iv,iw,ix,iy,iz,iA,iB,iC,iD,iE,iF,iG,iH,iI,iJ,iK,iL,iM,iN,iO,iP,iQ,iR,iS,iT,iU,iV,iW,iX,iY,iZ,j0,j1,j2,j5,j6,j7,j8,j9,jb,jd,je,jf,bw,bz,bA,bB,bD,bE,bF,bG,bH,bI,bJ,bK,bL,bM,bN,bO,bP,bQ,bT,bU,bV,bW,bX,bY,bZ,ca,cj,ck,cn,cx,cy,cz,cA,cB,cD,cE,cG,cH,cI,cJ,cM,cN,cO,cP,cQ,cT,cU,cW,cZ,da,db,dc,dd,de,df,dg,dh,di,dj,dm,du,dw,dz,dA,dB,dC,dD,dE,dF,dG,dH,dI,dJ,dK,dL,dM,dN,dO,dP,dQ,dR,dS,dT,dU,dV,dW,dX,dY,dZ,ec],[]⟩ W3:=by
 simp only[Tryz.f59,Option.bind_some,zhv,zhu] at hT
 simp at hT
 subst hT;have HL:Hid (∀(p:ByteArray) X,z45 X (.slice Ar D.length cr) D→Calls prog 89 #[.agg #[.slice Ar D.length cr,dr],.string p] X fun e w'=>e=.returned (.tuple #[.bool (zi0 D p),.int .i64 (zec (zgs D p)).num])∧Below X.heap.size X w'):=hd_ fun p X hX=>zi2 D p _ dr X hX (by omega)
 have HLA:Hid (∀(p:ByteArray) X,z45 X (.slice Ar D.length cr) D→Calls prog 90 #[.agg #[.slice Ar D.length cr,dr],.string p] X (zh0 X (zgs D p))):=hd_ fun p X hX=>zh1 D p _ dr X hX (by omega)
 have HAC:=hd_ hac;have HI0:Hid (∃ m' cv' l' es ev,m'≤m+11 * 0∧l'.length≤n0+0∧EdK D 0 es∧zpf w we W3 U g gw m' D (.slice Ar D.length cr) dr cv cv' l' g6 g7 gp B num es ev):=hd_ ⟨m,cv,l,[],_,by omega,by omega,edK_0 D,hS⟩
 clear hac hS hl;go_wp2_with fail;go_loopw [15] (fun i wx=>∃ k:Nat,i=.int .i64 k∧k≤6∧Hid (∃ m' cv' l' es ev,m'≤m+11 * k∧l'.length≤n0+k∧EdK D k es∧zpf w we wx U g gw m' D (.slice Ar D.length cr) dr cv cv' l' g6 g7 gp B num es ev)) (fun i _=>6 - (intOf i).toNat)
 case atStart=>exact⟨0,rfl,Nat.zero_le _,HI0⟩
 case round =>
  obtain⟨k,rfl,hk,HI⟩:=hrel;clear HI0;by_cases hlt:k<6
  ·obtain⟨m',cv',l',es,ev,hm',hl',hEK,hST⟩:=HI.out;have HS:=hd_ hST;have HB:=hd_ (And.intro hm' (And.intro hl' hEK));have HLT:=hd_ hlt;have k6:=hlt;have hmb:m'≤80100:=by omega
   clear HI hm' hl' hEK hST;have fs:wr.cell? ⟨gp,k,none⟩=some (.string (zff[k]'(show k<zff.length from k6))):=(HS.out.bp.cell k).trans (by rw[List.getElem?_map,List.getElem?_eq_getElem (show k<zff.length from k6)];rfl)
   have fc:=HL.out (zff[k]'(show k<zff.length from k6));have HPP:Hid (zff[k]'(show k<zff.length from k6)=zff[k]'(show k<zff.length from k6)):=hd_ rfl;generalize hpp:zff[k]'(show k<zff.length from k6)=p at fs fc;have HPE:=hd_ hpp;clear hpp HPP;have HNU:Hid (∃ q,(zec (zgs D p)).num=q):=hd_ ⟨_,rfl⟩;generalize zi0 D p=fb at fc;generalize hnn:(zec (zgs D p)).num=fn at fc;have HNN:=hd_ hnn;clear hnn HNU;have cL:∀ d os,Calls prog 89 #[.agg #[.slice Ar D.length cr,dr],.string p] (grow (redrawn wr d) os) fun e w''=>e=.returned (.tuple #[.bool fb,.int .i64 fn])∧∃ p:Regrown,w''=grow (redrawn wr p.d) p.os:=fun d os=>Calls.regrown_of (fc _ (HS.out.ws.revs.below (below_regrown wr d os)));have x0:=cell_regrown (show wr.cell? ⟨gw,0,none⟩=some (.slice Ar D.length cr) from HS.out.ws.box.cell 0);have x1:=cell_regrown (show wr.cell? ⟨gw,1,none⟩=some dr from HS.out.ws.box.cell 1);have x2:=cell_regrown fs;have qz:(k:Int)<6:=by omega
   clear fs fc;go_upto_region 13 with fail;refine wp_region_quiet_below (by kernel_rfl) (by kernel_rfl) ?_
   repeat (first | go_big_quiet_step (exact cL _ _) | quiet_step (exact cL _ _))
   refine wpQuiet_nil ?_;intro _ hw9;obtain⟨⟨dq,osq⟩,hw9⟩:=hw9;subst hw9;have HS7:=hd_ (HS.out.under (below_regrown wr dq osq));clear cL x0 x1 x2 qz;generalize grow (redrawn wr dq) osq=w7 at HS7 ⊢;have HC:Hid (∀ w',Below w7.heap.size w7 w'→w'.cell? ⟨gw,0,none⟩=some (.slice Ar D.length cr)∧w'.cell? ⟨gw,1,none⟩=some dr∧w'.cell? ⟨gp,k,none⟩=some (.string p)):=hd_ fun w' hb=>⟨(HS7.out.under hb).ws.box.cell 0,(HS7.out.under hb).ws.box.cell 1,((HS7.out.under hb).bp.cell k).trans (by rw[List.getElem?_map,List.getElem?_eq_getElem (show k<zff.length from k6),HPE.out];rfl)⟩
   have HR7:=hd_ HS7.out.ws.revs;have HLP:=HLA.out p;unfold zh0 at HLP;generalize zec (zgs D p)=v at HLP;generalize (zgs D p).isSome=bo at HLP;have qz:(k:Int)<6:=by omega
   go_upto_region 14 with fail;refine chR14 _ (by kernel_rfl) _ w7 gw gp k D.length cr Ar dr p v bo HC.out qz (fun X hX=>HLP X (z45.below HR7.out hX)) ?_
   intro fS fT fU fV fW fX fY fZ ga gb gf gg tb g18 w8 hb18 hge18 hbel;have HS8:=hd_ (HS7.out.under hbel);have H18:=hd_ hb18;have HG18:Hid (B≤g18):=hd_ (Nat.le_trans HS7.out.ord.2.2.2.2 hge18);clear HLP HR7 hb18 hge18 hbel HC HS7;have s8:w8.cell? ⟨gp,k,none⟩=some (.string p):=(HS8.out.bp.cell k).trans (by rw[List.getElem?_map,List.getElem?_eq_getElem (show k<zff.length from k6),HPE.out];rfl)
   have hal:Below w8.heap.size w8 (w8.alloc (.cells #[.string p,.int .i64 0,.int .i64 0,.bool false,.bool false,.bool false,.int .u64 0,.int .i64 0,.int .i64 fn,.string ⟨#[]⟩,.int .i64 0,.int .i64 0] 90)):=(Below.refl _ _).alloc (Nat.le_refl _) _;have HS9:=hd_ (HS8.out.under hal);have H189:=hd_ (H18.out.below hal H18.out.lt);have H20:Hid (Blk _ _ 90 [.string p,.int .i64 0,.int .i64 0,.bool false,.bool false,.bool false,.int .u64 0,.int .i64 0,.int .i64 fn,.string ⟨#[]⟩,.int .i64 0,.int .i64 0]):=hd_ (z0l w8 _ _);have HO:Hid (B≤w8.heap.size∧w8.heap.size≠g18∧cv'.ownBlock≠some w8.heap.size∧ev.ownBlock≠some w8.heap.size):=hd_ ⟨HS8.out.ord.2.2.2.2,by have:=H18.out.lt;omega,fun e=>by have:=(HS8.out.ws.cnk.lt _ e).2;omega,fun e=>by have:=(HS8.out.own.lt _ e).2;omega⟩
   clear hal H18;go_upto_block 2 with fail
   clear s8;generalize w8.alloc (.cells #[.string p,.int .i64 0,.int .i64 0,.bool false,.bool false,.bool false,.int .u64 0,.int .i64 0,.int .i64 fn,.string ⟨#[]⟩,.int .i64 0,.int .i64 0] 90)=w9 at HS9 H189 H20 ⊢;generalize w8.heap.size=g20 at H20 HO ⊢;clear HS8;go_cut [] (fun wx=>Hid (∃(x:Edt) (m'':Nat) (cv'':Value) (l'':List Cnk),x.path=p∧x.base=fn∧m''≤m'+11∧l''.length≤l'.length+1∧Blk wx g20 90 [.string x.path,.int .i64 x.act,.int .i64 x.ty.base,.bool x.ty.k,.bool x.ty.l,.bool x.ty.x,.int .u64 x.sum,.int .i64 x.size,.int .i64 x.base,.string x.frm,.int .i64 x.fnum,.int .i64 x.fence]∧zpf w we wx U g gw m'' D (.slice Ar D.length cr) dr cv cv'' l'' g6 g7 gp B num es ev))
   case first =>
    by_cases h1:(k:Int)=a
    ·have q1:((k:Int) == a)=true:=by simpa using h1
     clear h1;go_upto_region 20 with fail;refine chR20 _ (by kernel_rfl) _ w9 g18 g20 v ⟨p,0,z2i,0,0,fn,z2l,0,0⟩ H189.out H20.out HO.out.2.1 ?_
     intro az aA aB aC w10 hB hG;have HB10:=hd_ hB;have HS10:=hd_ (HS9.out.grownAt hG (fun k e=>by injection e with e;subst e;exact⟨HO.out.1,HO.out.2.2⟩))
     clear hB hG q1;go_wp2_with fail;go_meet
     exact hd_ ⟨⟨p,5,v.ty,0,0,fn,z2l,0,0⟩,m',cv',l',rfl,rfl,by omega,by omega,HB10.out,HS10.out⟩
    ·have q1:((k:Int) == a)=false:=by simpa using h1
     clear h1;by_cases h2:(k:Int)=c
     ·have q2:((k:Int) == c)=true:=by simpa using h2
      have ha0:0≤a∧a<6:=by rcases HAC.out with e | e <;> omega
      obtain⟨ja,rfl⟩:∃ j:Nat,a=j:=⟨a.toNat,by omega⟩
      have ja6:ja<6:=by omega
      have HC9:Hid (∀ w',Below w9.heap.size w9 w'→w'.cell? ⟨gw,0,none⟩=some (.slice Ar D.length cr)∧w'.cell? ⟨gw,1,none⟩=some dr∧w'.cell? ⟨gp,ja,none⟩=some (.string (zff[ja]'ja6))):=hd_ fun w' hb=>⟨(HS9.out.under hb).ws.box.cell 0,(HS9.out.under hb).ws.box.cell 1,((HS9.out.under hb).bp.cell ja).trans (by rw[List.getElem?_map,List.getElem?_eq_getElem (show ja<zff.length from ja6)];rfl)⟩
      have HLP:=HLA.out (zff[ja]'ja6);generalize zff[ja]'ja6=p2 at HC9 HLP;unfold zh0 at HLP;generalize zec (zgs D p2)=v2 at HLP;generalize (zgs D p2).isSome=bo2 at HLP;have HR9:=hd_ HS9.out.ws.revs;have qa:(ja:Int)<6:=by omega
      clear h2 ha0;go_upto_region 22 with fail;refine chR22 _ (by kernel_rfl) _ w9 gw gp ja D.length cr Ar dr p2 v2 bo2 HC9.out qa (fun X hX=>HLP X (z45.below HR9.out hX)) ?_
      intro aF aG aH aI aJ aK aL aM aN aO aP aQ tb2 g21 w10 hb21 hge21 hbel;have HS10:=hd_ (HS9.out.under hbel);have H2010:=hd_ (H20.out.below hbel H20.out.lt);have H21:=hd_ hb21;have hne21:g20≠g21:=by have:=H20.out.lt;omega
      clear HLP HR9 hb21 hge21 hbel HC9 HS9 q2 qa;go_upto_region 23 with fail;refine chR23 _ (by kernel_rfl) _ w10 g21 g20 v2 ⟨p,0,z2i,0,0,fn,z2l,0,0⟩ H21.out H2010.out hne21 ?_
      intro aR aS aT aU aV aW aX aY aZ ba bd bf bg w11 hB hG;have HB11:=hd_ hB;have HS11:=hd_ (HS10.out.grownAt hG (fun k e=>by injection e with e;subst e;exact⟨HO.out.1,HO.out.2.2⟩))
      have HX:=hd_ (zgg U g m' 2 w11 HS11.out.ws.tape (by omega) (by omega))
      clear hB hG H21 hne21 HS10 H2010 q1;go_wp2_with fail;refine HX.out.mono ?_;rintro e w12 ⟨k1,rfl,hk1,hT,hK⟩;dsimp only;have HS12:=hd_ (HS11.out.next hK hT);have HB12:=hd_ (hK.blk HB11.out (by have:=HO.out.1;have:=HS11.out.ord;have:=HS11.out.ws.gU;have:=HS11.out.ws.UU;have:=HS11.out.ws.kept.size;have:=HS11.out.lo.1;simp;omega))
      obtain⟨bb,q3⟩:∃ b,(k1 == 0)=b:=⟨_,rfl⟩;clear hk1 hT hK HX HS11 HB11;cases bb with
      | false =>
       go_wp2_with fail;go_meet
       exact hd_ ⟨⟨p,4,v2.ty,v2.sum,v2.size,fn,v2.path,v2.num,0⟩,m'+1,cv',l',rfl,rfl,by omega,by omega,HB12.out,HS12.out⟩
      | true =>
       have HCO:=hd_ (zpa HS12.out.ws (by have:=HB.out.2.1;omega) (by omega))
       go_wp2_with fail;refine HCO.out.mono ?_;rintro e w13 ⟨s,z,cv2,l2,rfl,hS,hll,hF⟩;dsimp only;have HS13:=hd_ (HS12.out.step hF hS);have HB13:=hd_ (hF.blk HB12.out (by have:=HO.out.1;have:=HS12.out.ord;have:=HS12.out.ws.gU;have:=HS12.out.ws.UU;have:=HS12.out.ws.kept.size;have:=HS12.out.lo.1;omega) (by have:=HO.out.1;have:=HS12.out.ord;have:=HS12.out.lo.2.1;omega) (zky HS12.out.ws.cnk HB12.out (by decide)))
       have HLL:=hd_ hll;have HNB:Hid (cv2.ownBlock≠some g20∧ev.ownBlock≠some g20):=hd_ ⟨zky hS.cnk HB13.out (by decide),HO.out.2.2.2⟩
       clear hS hll hF HCO HS12 HB12 q3;obtain⟨x0,x1,x2,x3,x4,x5,x6,x7,x8,x9,x10,x11⟩:=z7z HB13.out;obtain⟨f0,f1,f2,f3,f4,f5,f6,f7,f8,f9,f10,f11⟩:=zdz HB13.out;have HN:=hd_ ((HB13.out.set_ 6 (.int .u64 (s:Int))).set_ 7 (.int .i64 (z:Int)));have HG:=hd_ (HS13.out.grownAt (zpb (zpb (zpd _ (some g20)) 6 (.int .u64 (s:Int))) 7 (.int .i64 (z:Int))) (fun k e=>by injection e with e;subst e;exact⟨HO.out.1,HNB.out⟩))
       go_wp2_with fail;go_meet
       exact hd_ ⟨⟨p,4,v2.ty,s,z,fn,v2.path,v2.num,0⟩,m'+1+5,cv2,l2,rfl,rfl,by omega,HLL.out,HN.out,HG.out⟩
     ·have q2:((k:Int) == c)=false:=by simpa using h2
      have HX:=hd_ (zgg U g m' 3 w9 HS9.out.ws.tape (by omega) (by omega))
      clear h2;go_wp2_with fail;refine HX.out.mono ?_;rintro e w10 ⟨k1,rfl,hk1,hT,hK⟩;dsimp only;have HS10:=hd_ (HS9.out.next hK hT);have HB10:=hd_ (hK.blk H20.out (by have:=HO.out.1;have:=HS9.out.ord;have:=HS9.out.ws.gU;have:=HS9.out.ws.UU;have:=HS9.out.ws.kept.size;have:=HS9.out.lo.1;have:=HS9.out.lo.2.1;simp;omega))
      have HV10:=hd_ (hK.blk H189.out (by have:=HG18.out;have:=HS9.out.ord;have:=HS9.out.ws.gU;have:=HS9.out.ws.UU;have:=HS9.out.ws.kept.size;have:=HS9.out.lo.1;simp;omega))
      clear hT hK HX HS9 H20 H189;by_cases h3:0<k1
      ·have q3:decide (0<k1)=true:=decide_eq_true h3;clear h3 hk1;go_wp2_with fail;go_roundw
       case rel=>exact⟨k+1,by go_num,by have:=HLT.out;omega,hd_ ⟨m'+1,cv',l',es,ev,by have:=HB.out.1;omega,by have:=HB.out.2.1;omega,HB.out.2.2.skip,HS10.out⟩⟩
       case measure=>have:=HLT.out;simp [intOf];omega
      ·have q3:decide (0<k1)=false:=decide_eq_false h3;clear h3 hk1;cases fb with
       | false =>
        have HTY:Hid (Calls prog 92 #[.pointer (some ⟨g,0,none⟩)] w10 fun e w'=>∃ ty:Ty,e=.returned (.agg #[.int .i64 ty.base,.bool ty.k,.bool ty.l,.bool ty.x])∧zgf w' U g (m'+1+1)∧z6t [g] w10 w'):=hd_ (zmv U g (m'+1) w10 HS10.out.ws.tape (by have:=HS10.out.ws.UU;have:=HS10.out.ws.kept.size;omega) (by omega))
        go_wp2_with fail;refine HTY.out.mono ?_;rintro e w11 ⟨ty,rfl,hT,hK⟩;dsimp only;have HS11:=hd_ (HS10.out.next hK hT);have HB11:=hd_ (hK.blk HB10.out (by have:=HO.out.1;have:=HS10.out.ord;have:=HS10.out.ws.gU;have:=HS10.out.ws.UU;have:=HS10.out.ws.kept.size;have:=HS10.out.lo.1;have:=HS10.out.lo.2.1;simp;omega))
        have HCO:=hd_ (zpa HS11.out.ws (by have:=HB.out.2.1;omega) (by omega))
        clear hT hK HTY HS10 HB10 HV10;go_wp2_with fail;refine HCO.out.mono ?_;rintro e w13 ⟨s,z,cv2,l2,rfl,hS,hll,hF⟩;dsimp only;have HS13:=hd_ (HS11.out.step hF hS);have HB13:=hd_ (hF.blk HB11.out (by have:=HO.out.1;have:=HS11.out.ord;have:=HS11.out.ws.gU;have:=HS11.out.ws.UU;have:=HS11.out.ws.kept.size;have:=HS11.out.lo.1;have:=HS11.out.lo.2.1;omega) (by have:=HO.out.1;have:=HS11.out.ord;have:=HS11.out.ws.gU;have:=HS11.out.ws.UU;have:=HS11.out.ws.kept.size;have:=HS11.out.lo.1;have:=HS11.out.lo.2.1;omega) (zky HS11.out.ws.cnk HB11.out (by decide)))
        have HLL:=hd_ hll;have HNB:Hid (cv2.ownBlock≠some g20∧ev.ownBlock≠some g20):=hd_ ⟨zky hS.cnk HB13.out (by decide),HO.out.2.2.2⟩
        clear hS hll hF HCO HS11 HB11;obtain⟨x0,x1,x2,x3,x4,x5,x6,x7,x8,x9,x10,x11⟩:=z7z HB13.out;obtain⟨f0,f1,f2,f3,f4,f5,f6,f7,f8,f9,f10,f11⟩:=zdz HB13.out;have HN:=hd_ (((((((HB13.out.set_ 1 (.int .i64 1)).set_ 2 (.int .i64 ty.base)).set_ 3 (.bool ty.k)).set_ 4 (.bool ty.l)).set_ 5 (.bool ty.x)).set_ 6 (.int .u64 (s:Int))).set_ 7 (.int .i64 (z:Int)));have HG:=hd_ (HS13.out.grownAt (zpb (zpb (zpb (zpb (zpb (zpb (zpb (zpd _ (some g20)) 1 (.int .i64 1)) 2 (.int .i64 ty.base)) 3 (.bool ty.k)) 4 (.bool ty.l)) 5 (.bool ty.x)) 6 (.int .u64 (s:Int))) 7 (.int .i64 (z:Int))) (fun k e=>by injection e with e;subst e;exact⟨HO.out.1,HNB.out⟩))
        go_wp2_with fail;go_meet
        exact hd_ ⟨⟨p,1,ty,s,z,fn,z2l,0,0⟩,m'+1+1+5,cv2,l2,rfl,rfl,by omega,HLL.out,HN.out,HG.out⟩
       | true =>
        have HX:=hd_ (zgg U g (m'+1) 4 w10 HS10.out.ws.tape (by omega) (by omega))
        go_wp2_with fail;refine HX.out.mono ?_;rintro e w11 ⟨k2,rfl,hk2,hT,hK⟩;dsimp only;have HS11:=hd_ (HS10.out.next hK hT);have HB11:=hd_ (hK.blk HB10.out (by have:=HO.out.1;have:=HS10.out.ord;have:=HS10.out.ws.gU;have:=HS10.out.ws.UU;have:=HS10.out.ws.kept.size;have:=HS10.out.lo.1;have:=HS10.out.lo.2.1;simp;omega))
        have HV11:=hd_ (hK.blk HV10.out (by have:=HG18.out;have:=HS10.out.ord;have:=HS10.out.ws.gU;have:=HS10.out.ws.UU;have:=HS10.out.ws.kept.size;have:=HS10.out.lo.1;simp;omega))
        obtain⟨bb,q4⟩:∃ b,(k2 == 0)=b:=⟨_,rfl⟩;clear hk2 hT hK HX HS10 HB10 HV10;cases bb with
        | true =>
         go_upto_region 30 with fail;refine chR30 _ (by kernel_rfl) _ w11 g18 g20 v ⟨p,0,z2i,0,0,fn,z2l,0,0⟩ HV11.out HB11.out HO.out.2.1 ?_
         intro bh bi bj bq w12 hB hG;have HB12:=hd_ hB;have HS12:=hd_ (HS11.out.grownAt hG (fun k e=>by injection e with e;subst e;exact⟨HO.out.1,HO.out.2.2⟩))
         clear hB hG;go_wp2_with fail;go_meet
         exact hd_ ⟨⟨p,3,v.ty,0,0,fn,z2l,0,0⟩,m'+1+1,cv',l',rfl,rfl,by omega,by omega,HB12.out,HS12.out⟩
        | false =>
         have HCO:Hid (∀ X,Below w11.heap.size w11 X→Calls prog 91 #[.pointer (some ⟨gw,0,none⟩),.pointer (some ⟨g,0,none⟩)] X fun e w'=>∃ s z:Nat,e=.returned (.agg #[.int .u64 s,.int .i64 z])∧Blk w' g18 66 [.string v.path,.int .i64 v.num,.int .i64 v.chg,.int .i64 v.act,.int .i64 v.ty.base,.bool v.ty.k,.bool v.ty.l,.bool v.ty.x,.int .u64 v.sum,.int .i64 v.size,.string v.frm,.int .i64 v.fnum]∧Blk w' g20 90 [.string p,.int .i64 0,.int .i64 0,.bool false,.bool false,.bool false,.int .u64 0,.int .i64 0,.int .i64 fn,.string ⟨#[]⟩,.int .i64 0,.int .i64 0]∧(∃ cv2 l2,zpf w we w' U g gw (m'+1+1+5) D (.slice Ar D.length cr) dr cv cv2 l2 g6 g7 gp B num es ev∧l2.length≤l'.length+1∧Blk w' g20 90 [.string p,.int .i64 0,.int .i64 0,.bool false,.bool false,.bool false,.int .u64 0,.int .i64 0,.int .i64 fn,.string ⟨#[]⟩,.int .i64 0,.int .i64 0])):=hd_ fun X hX=>by
          have HSX:=hd_ (HS11.out.under hX);have hB:=HB11.out.below hX HB11.out.lt;have hV:=HV11.out.below hX HV11.out.lt;refine (zpa HSX.out.ws (by have:=HB.out.2.1;omega) (by omega)).mono ?_
          rintro e w13 ⟨s,z,cv2,l2,rfl,hS,hll,hF⟩;have hB2:=hF.blk hB (by have:=HO.out.1;have:=HSX.out.ord;have:=HSX.out.ws.gU;have:=HSX.out.ws.UU;have:=HSX.out.ws.kept.size;have:=HSX.out.lo.1;have:=HSX.out.lo.2.1;omega) (by have:=HO.out.1;have:=HSX.out.ord;have:=HSX.out.ws.gU;have:=HSX.out.ws.UU;have:=HSX.out.ws.kept.size;have:=HSX.out.lo.1;have:=HSX.out.lo.2.1;omega) (zky HSX.out.ws.cnk hB (by decide))
          have hV2:=hF.blk hV (by have:=HG18.out;have:=HSX.out.ord;have:=HSX.out.ws.gU;have:=HSX.out.ws.UU;have:=HSX.out.ws.kept.size;have:=HSX.out.lo.1;have:=HSX.out.lo.2.1;omega) (by have:=HG18.out;have:=HSX.out.ord;have:=HSX.out.ws.gU;have:=HSX.out.ws.UU;have:=HSX.out.ws.kept.size;have:=HSX.out.lo.1;have:=HSX.out.lo.2.1;omega) (zky HSX.out.ws.cnk hV (by decide))
          exact⟨s,z,rfl,hV2,hB2,cv2,l2,HSX.out.step hF hS,hll,hB2⟩
         clear q1 q2 q3;go_upto_region 16 with fail;refine chR16 _ (by kernel_rfl) _ w11 g gw g18 g20 v ⟨p,0,z2i,0,0,fn,z2l,0,0⟩ _ HV11.out HO.out.2.1 HCO.out ?_
         intro ab ac af ag ah ai aj ak s z w12 w13 hF hB hV hG;obtain⟨cv2,l2,hS,hll,hB2⟩:=hF;have HNB:Hid (cv2.ownBlock≠some g20∧ev.ownBlock≠some g20):=hd_ ⟨zky hS.ws.cnk hB2 (by decide),HO.out.2.2.2⟩
         have HS13:=hd_ (hS.grownAt hG (fun k e=>by injection e with e;subst e;exact⟨HO.out.1,HNB.out⟩))
         have HB13:=hd_ hB;have HLL:=hd_ hll;have HX:=hd_ (zgg U g (m'+1+1+5) 4 w13 HS13.out.ws.tape (by omega) (by omega))
         clear hS hll hB2 hB hV hG HCO HS11 HB11 HV11 q4;go_wp2_with fail;refine HX.out.mono ?_;rintro e w14 ⟨k3,rfl,hk3,hT,hK⟩;dsimp only;have HS14:=hd_ (HS13.out.next hK hT);have HB14:=hd_ (hK.blk HB13.out (by have:=HO.out.1;have:=HS13.out.ord;have:=HS13.out.ws.gU;have:=HS13.out.ws.UU;have:=HS13.out.ws.kept.size;have:=HS13.out.lo.1;have:=HS13.out.lo.2.1;simp;omega))
         obtain⟨bb,q5⟩:∃ b,(k3 == 0)=b:=⟨_,rfl⟩;clear hk3 hT hK HX HS13 HB13;cases bb with
         | false =>
          go_wp2_with fail;go_meet
          exact hd_ ⟨⟨p,2,v.ty,s,z,fn,z2l,0,0⟩,m'+1+1+5+1,cv2,l2,rfl,rfl,by omega,HLL.out,HB14.out,HS14.out⟩
         | true =>
          have HTY:Hid (Calls prog 92 #[.pointer (some ⟨g,0,none⟩)] w14 fun e w'=>∃ ty:Ty,e=.returned (.agg #[.int .i64 ty.base,.bool ty.k,.bool ty.l,.bool ty.x])∧zgf w' U g (m'+1+1+5+1+1)∧z6t [g] w14 w'):=hd_ (zmv U g (m'+1+1+5+1) w14 HS14.out.ws.tape (by have:=HS14.out.ws.UU;have:=HS14.out.ws.kept.size;omega) (by omega))
          go_wp2_with fail;refine HTY.out.mono ?_;rintro e w15 ⟨ty,rfl,hT,hK⟩;dsimp only;have HS15:=hd_ (HS14.out.next hK hT);have HB15:=hd_ (hK.blk HB14.out (by have:=HO.out.1;have:=HS14.out.ord;have:=HS14.out.ws.gU;have:=HS14.out.ws.UU;have:=HS14.out.ws.kept.size;have:=HS14.out.lo.1;have:=HS14.out.lo.2.1;simp;omega))
          clear hT hK HTY HS14 HB14 q5;obtain⟨x0,x1,x2,x3,x4,x5,x6,x7,x8,x9,x10,x11⟩:=z7z HB15.out;obtain⟨f0,f1,f2,f3,f4,f5,f6,f7,f8,f9,f10,f11⟩:=zdz HB15.out;have HN:=hd_ ((((HB15.out.set_ 2 (.int .i64 ty.base)).set_ 3 (.bool ty.k)).set_ 4 (.bool ty.l)).set_ 5 (.bool ty.x));have HG:=hd_ (HS15.out.grownAt (zpb (zpb (zpb (zpb (zpd _ (some g20)) 2 (.int .i64 ty.base)) 3 (.bool ty.k)) 4 (.bool ty.l)) 5 (.bool ty.x)) (fun k e=>by injection e with e;subst e;exact⟨HO.out.1,HNB.out⟩))
          go_wp2_with fail;go_meet
          exact hd_ ⟨⟨p,2,ty,s,z,fn,z2l,0,0⟩,m'+1+1+5+1+1,cv2,l2,rfl,rfl,by omega,HLL.out,HN.out,HG.out⟩
   case rest =>
    obtain⟨x,m2,cv2,l2,hx1,hx2,hm2,hl2,hXB,hS⟩:=hcut.out;have HS2:=hd_ hS;have HX2:=hd_ (And.intro hx1 (And.intro hx2 (And.intro hm2 hl2)));obtain⟨Ae,ce,rfl⟩:=z0o hS.own;have e3:wc.cell? ⟨g7,3,none⟩=some (.slice Ae es.length ce):=hS.b7.cell 3;obtain⟨x0,x1,x2,x3,x4,x5,x6,x7,x8,x9,x10,x11⟩:=z7z hXB;have hel:es.length≤6:=by have:=HB.out.2.2.len;omega
    have HSA:=hd_ (hS.under ((Below.refl wc.heap.size wc).alloc (Nat.le_refl _) (.cells #[.string x.path,.int .i64 x.act,.int .i64 x.ty.base,.bool x.ty.k,.bool x.ty.l,.bool x.ty.x,.int .u64 x.sum,.int .i64 x.size,.int .i64 x.base,.string x.frm,.int .i64 x.fnum,.int .i64 x.fence] 90)));have hrow:=z0i wc [.string x.path,.int .i64 x.act,.int .i64 x.ty.base,.bool x.ty.k,.bool x.ty.l,.bool x.ty.x,.int .u64 x.sum,.int .i64 x.size,.int .i64 x.base,.string x.frm,.int .i64 x.fnum,.int .i64 x.fence] 90 12 1 rfl (by unfold maxLen;omega) wc.heap.size rfl
    clear hcut hx1 hx2 hm2 hl2 hXB hS HS9 H20 H189;go_wp2_with (at_builtin;refine z0j rfl rfl edtElem HSA.out.own rfl hrow rfl (by simp [Value.oneCell']) (by omega) (by unfold maxLen;omega) HSA.out.ord.2.2.2.2 ?_;intro A' c' w6 hown hgr hob;obtain⟨⟨y3,f3⟩,hNS⟩:=HSA.out.push (es':=es++[x]) hgr (by rw[List.length_append,List.flatMap_append];exact hown))
    have HN:=hd_ hNS;have HEK:Hid (EdK D (k+1) (es++[x])):=hd_ (HB.out.2.2.push (show k<zff.length from k6) (HX2.out.1.trans HPE.out.symm) (by rw[HX2.out.2.1,HX2.out.1];exact HNN.out.symm))
    clear hown hgr hob hNS hrow e3 x0 x1 x2 x3 x4 x5 x6 x7 x8 x9 x10 x11;go_wp2_with fail;go_roundw
    case rel=>exact⟨k+1,by go_num,by have:=HLT.out;omega,hd_ ⟨m2,cv2,l2,es++[x],_,by have:=HB.out.1;have:=HX2.out.2.2.1;omega,by have:=HB.out.2.1;have:=HX2.out.2.2.2;omega,HEK.out,HN.out⟩⟩
    case measure=>have:=HLT.out;simp [intOf];omega
  ·have hk6:k=6:=by omega
   subst hk6;obtain⟨m',cv',l',es,ev,hm',hl',hEK,hS⟩:=HI.out;obtain⟨Ae,ce,rfl⟩:=z0o hS.own;obtain⟨c0,c1,c2,c3,c4⟩:=zhx hS.b7;obtain⟨z0,z1,z2,z3,z4⟩:=zhx hS.b6;obtain⟨f0,f1,f2,f3,f4⟩:=(⟨hS.b6.frozen 0,hS.b6.frozen 1,hS.b6.frozen 2,hS.b6.frozen 3,hS.b6.frozen 4⟩:wr.frozen? ⟨g6,0,none⟩=false∧wr.frozen? ⟨g6,1,none⟩=false∧wr.frozen? ⟨g6,2,none⟩=false∧wr.frozen? ⟨g6,3,none⟩=false∧wr.frozen? ⟨g6,4,none⟩=false);have hE:=((((hS.b6.set_ 0 (.int .i64 num)).set_ 1 (.string ⟨#[]⟩)).set_ 2 (.string ⟨#[]⟩)).set_ 3 (.slice Ae es.length ce)).set_ 4 (.slice none 0 0);have hG:=zpb (zpb (zpb (zpb (zpb (zpd wr (some g6)) 0 (.int .i64 num)) 1 (.string ⟨#[]⟩)) 2 (.string ⟨#[]⟩)) 3 (.slice Ae es.length ce)) 4 (.slice none 0 0);have hne:(Value.slice Ae es.length ce).ownBlock≠some g6:=fun e=>by have:=(hS.own.lt g6 e).1;have:=hS.ord;omega
   have HF:Hid (z47 _ (.slice Ae es.length ce) es∧WsB w _ U g gw m' D (.slice Ar D.length cr) dr cv' l'∧Frm we _ g gw cv cv'):=hd_ ⟨Row.of_own (zpg hS.own (fun x hx=>hG.block x (hS.own.lt x hx).2 (fun e=>by injection e with e;subst e;exact hne hx))),hS.ws.grownAt hG (fun q e=>by injection e with e;subst e;exact⟨by have:=hS.ord.1;have:=hS.lo.1;omega,by have:=hS.ord.1;have:=hS.lo.2.1;omega,zky hS.ws.cnk hS.b6 (by decide),fun e2=>by have:=hS.lo.2.2 _ e2;have:=hS.ord.1;omega⟩),hS.frm.grownAt hG (fun q e=>by injection e with e;have:=hS.ord.1;omega)⟩
   have HE:=hd_ hE;have HK:=hd_ (And.intro hm' (And.intro hl' hEK));clear HI hm' hl' hEK hS hE hG hne;go_wp2_with fail;have hE:=HE.out;have hF:=HF.out;generalize ((((wr.setCell ⟨g6,0,none⟩ (.int .i64 num)).setCell ⟨g6,1,none⟩ (.string ⟨#[]⟩)).setCell ⟨g6,2,none⟩ (.string ⟨#[]⟩)).setCell ⟨g6,3,none⟩ (.slice Ae es.length ce)).setCell ⟨g6,4,none⟩ (.slice none 0 0)=W8 at hE hF ⊢;obtain⟨e0,e1,e2,e3,e4⟩:=zhx hE;exact bodyPost_ret (v:=.agg #[.int .i64 num,.string ⟨#[]⟩,.string ⟨#[]⟩,(.slice Ae es.length ce),.slice none 0 0]) (by simp [results,results59,go_sem,e0,e1,e2,e3,e4]) rfl ⟨.slice Ae es.length ce,es,cv',l',rfl,hF.1,HK.out.2.2,hF.2.1.mono (by have:=HK.out.1;omega),HK.out.2.1,hF.2.2⟩
end Go.Proofs.YtegeboijhifmcaaGreatDoor
