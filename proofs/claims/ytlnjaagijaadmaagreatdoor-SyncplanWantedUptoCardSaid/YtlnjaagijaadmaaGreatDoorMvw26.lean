/- A part. -/
import Derived.Test.YtlnjaagijaadmaaGreatDoorMvw23
import Derived.Test.YtlnjaagijaadmaaGreatDoorMvw22
set_option linter.unusedVariables false
set_option linter.unusedSimpArgs false
set_option maxHeartbeats 16000000
set_option maxRecDepth 100000
namespace Go.Proofs.YtlnjaagijaadmaaGreatDoor
open Go.RowKit
theorem zla:z0e Tryz.prog 161 213 2 32:=z0f Tryz.underlying161 (z:=.agg #[zL none 0 0,.bool false]) (by kernel_rfl) rfl (by decide)
def zlb (w:zW)(p q:Pat)(e:Ending)(w':zW):Prop:=zB w w'/\∃(v:zV) (bs:List PatM),e=.returned (.tuple #[v,.bool true])/\bs.map (·.1)=zl6 p q/\HolesIn w' v bs
theorem zlc {w w2 wr:zW}{B g cv:Nat}{p q:Pat}{T:List zA}{bs:List PatM}{bv:zV}(h:zl7 B g cv p q p.kp.length p.kp.length T bs bv w2 wr)(hw:zB w w2)(hB:B=w2.heap.size)(hr:p.kr=false):zlb w p q (.returned (.tuple #[bv,.bool true])) wr:=by
 subst hB;refine⟨z0r hw h.low,bv,bs,rfl,?_,h.holes⟩;rw[h.mp,ZH];unfold zl6;rw[hr];simp
theorem zld {w w2 wr w6:zW}{B g cv:Nat}{p q:Pat}{T:List zA}{bs:List PatM}{bv:zV}{A' A6:zP}{c6:Nat}(h:zl7 B g cv p q p.kp.length p.kp.length T bs bv w2 wr)(hw:zB w w2)(hB:B=w2.heap.size)(hr:p.kr=true)(hle:p.kp.length<=q.kp.length)
  (hown:w6.ownsRow B 213 2 (zL A6 (bs.length+1) c6) (bs.length+1) (bs.flatMap PatM.cells++[zL A' (q.kp.length - p.kp.length) (q.kp.length - p.kp.length),.bool q.kr])) (hgr:wr.grownBy w6 bv.ownBlock)
  (hrow:∀ w2 xs2,Row w2 1 (zL (some ⟨g,0,none⟩) q.kp.length cv) q.kp.length xs2->Row w2 1 (zL A' (q.kp.length - p.kp.length) (q.kp.length - p.kp.length)) (q.kp.length - p.kp.length) (xs2.drop (p.kp.length * 1)))
  (hz:∀ x∈q.kp,x.size<=30000000):zlb w p q (.returned (.tuple #[zL A6 (bs.length+1) c6,.bool true])) w6:=by
 subst hB;have hlow:zB w2 w6:=h.low.grown hgr h.low.size (fun x e=>(h.bd.lt x e).1);have htx:=z5b h.tx hgr (fun x e e2=>zl3 h.bd h.tx (by decide) e2 e)
 have hd:T.drop p.kp.length=q.kp.drop p.kp.length:=by
  apply List.ext_getElem?
  intro j;rw[List.getElem?_drop,List.getElem?_drop,h.aft _ (by omega)]
 refine⟨z0r hw hlow,_,bs++[(⟨q.kp.drop p.kp.length,q.kr⟩,A',q.kp.length - p.kp.length)],rfl,?_,?_,fun x hx=>?_⟩
 ·rw[Zs,h.mp,ZH];unfold zl6;rw[hr];rfl
 ·rw[Zc,ZI];have:=Row.of_own hown;have e1:PatM.cells (⟨q.kp.drop p.kp.length,q.kr⟩,A',q.kp.length - p.kp.length)=[zL A' (q.kp.length - p.kp.length) (q.kp.length - p.kp.length),.bool q.kr]:=by
   unfold PatM.cells PatM.v;rw[Zu]
  rw[List.flatMap_singleton,e1];exact this
 ·rcases Zy.1 hx with hx | hx
  ·obtain⟨i,s,h1,h2,rfl,h4⟩:=h.ent x hx;refine⟨bd_row htx (by rw[ZA,h2];rfl),fun y hy=>?_⟩
   rw[Zm.1 hy];exact h4
  ·rw[Zm.1 hx];have h1:=hrow _ _ (Row.of_own htx);rw[Nat.mul_one,<- List.map_drop,hd] at h1;refine⟨?_,fun y hy=>hz y (ZW hy)⟩;show Row w6 1 (zL A' (q.kp.drop p.kp.length).length _) (q.kp.drop p.kp.length).length _
   rw[Zu];exact h1
theorem bindW (p q:Pat)(A B:zP)(a b:Nat)(w:zW)(hp:zbx w (zL A p.kp.length a) p)(hq:zbx w (zL B q.kp.length b) q)(hpe:z8w p=0)(hqe:z8w q=0)(hw:Wi q p):
  Calls Tryz.prog 190 #[.agg #[zL A p.kp.length a,.bool p.kr],.agg #[zL B q.kp.length b,.bool q.kr]] w (zlb w p q):=by
 have hA:zB w ((w.alloc (zC #[zL A p.kp.length a,.bool p.kr] 56)).alloc (zC #[zL B q.kp.length b,.bool q.kr] 56)):=(zR).alloc (by simp) _
 have h2:zch ((w.alloc (zC #[zL A p.kp.length a,.bool p.kr] 56)).alloc (zC #[zL B q.kp.length b,.bool q.kr] 56)) w.heap.size (zL A p.kp.length a) p.kr:=(z0l w [zL A p.kp.length a,.bool p.kr] 56).alloc _;have h3:zch ((w.alloc (zC #[zL A p.kp.length a,.bool p.kr] 56)).alloc (zC #[zL B q.kp.length b,.bool q.kr] 56)) (w.heap.size+1) (zL B q.kp.length b) q.kr:=by
  have:=z0l (w.alloc (zC #[zL A p.kp.length a,.bool p.kr] 56)) [zL B q.kp.length b,.bool q.kr] 56;rw[Zl] at this;exact this
 have HWI:=hd_ (fun X (hX:zB w X)=>withinW q p B A b a X (hq.kw hX) (hp.kw hX) hqe hpe hw);have hlq:=zcc hqe;have hlp:=(zid.1 hpe).pos;have hle:=hw.le;have HCL:=hd_ (fun X (hX:zB w X)=>zcd q.kp _ X (hq.kw hX).1 (by omega))
 have HQZ:=hd_ hq.2;have HP:=hd_ hp;clear hp hq hw hpe hqe;go_enter Tryz.func190,Tryz.ntmps190;go_upto_region 1 with fail;generalize (w.alloc (zC #[zL A p.kp.length a,.bool p.kr] 56)).alloc (zC #[zL B q.kp.length b,.bool q.kr] 56)=W1 at hA h2 h3 |-;have x0:=h2.c0;have x1:=h2.c1;have y0:=h3.c0;have y1:=h3.c1;have H:=hd_ (Zi hA (Zi h2 h3));have HC1:=hd_ (HWI W1 hA);clear hA h2 h3 HWI;go_wp2_with fail;refine HC1.mono ?_;rintro e w2 ⟨rfl,hb⟩;have HB:=hd_ (z0r H.1 hb);have HG:=hd_ (Zi (H.out.2.1.low hb) (H.out.2.2.low hb));clear hb x0 x1 y0 y1 H HC1;have y0:=HG.out.2.c0;have HC2:=hd_ (HCL w2 HB);clear HCL;go_wp2_with fail;refine HC2.mono ?_;rintro e w3 ⟨v',rfl,hown,hb⟩;obtain⟨g,cv,rfl⟩:=z0s hown (by omega)
 obtain⟨A',hcut,hrow⟩:=zl4 (P:=Tryz.prog) (t:=29) Tryz.underlying29 zcr (Row.of_own hown) hle;have HRW:=hd_ hrow;have HCV:=hd_ (zcq hown).1;have HS:Hid (zl7 w2.heap.size g cv p q 0 0 q.kp [] (zL none 0 0) w2 w3):=hd_ ⟨Zd _,hb,hown,Zv _ _ _ _,rfl,fun _ _=>rfl,rfl,fun x hx=>by cases hx⟩
 clear hb y0 hown hrow HC2;have x0:=(HG.out.1.low HS.out.low).c0;go_wp2_with fail;go_loopw [7,21] (fun bv i wr=>∃(k:Nat) (T:List zA) (bs:List PatM),i=zI k/\k<=p.kp.length/\bs.length<=k/\Hid (zl7 w2.heap.size g cv p q k k T bs bv w2 wr)) (fun _ i _=>p.kp.length - (intOf i).toNat)
 exact⟨0,_,_,rfl,Zg _,Zd _,HS⟩
 obtain⟨k,T,bs,rfl,hk,hbk,HI⟩:=hrel;clear x0;by_cases hlt:k<p.kp.length
 ·have hlk:k<q.kp.length:=by omega
  obtain⟨ad,rfl,hab,s0⟩:=z20.at_ (HP.out.kw (z0r HB.out HI.out.low)).1 hlt;have HT:=hd_ (fun X=>z92 p.kp[k] X);have HLT:=hd_ hlt;generalize hx:p.kp[k]=x at s0 HT;have HX:=hd_ hx;clear hab hx;cases hst:z8r x with
  | false =>
   rw[hst] at HT;have HST:=hd_ hst;clear hst;go_wp2_with (go_at_call 110;refine (HT _).mono ?_;rintro e w' ⟨rfl,rfl⟩)
   go_roundw
   exact⟨k+1,T,bs,by go_num,by omega,by omega,hd_ (HI.skip hlt hlk ((congrArg z8r HX).trans HST))⟩
   simp [intOf];omega
  | true =>
   rw[hst] at HT;have HST:=hd_ hst;have hx1:1<=x.size:=za8 hst;clear hst;have hTk:T[k]? = some q.kp[k]:=by rw[HI.out.aft k (Zd _),Ze hlk]
   have hyz:=HQZ.out q.kp[k] (Za _);generalize hy:q.kp[k]=y at hTk hyz;obtain⟨t0,t1,-⟩:=zc0 (j:=k) HI.out.tx (by rw[ZA,hTk];rfl)
   have HTR:Hid (∀ X,Calls Tryz.prog 219 #[zS y,zS (x.extract 1 x.size)] X fun e w'=>e=.returned (zS (zi4 x y))/\w'=X):=hd_ (fun X=>Tryz.strings_TrimSuffix y (x.extract 1 x.size) X (by omega))
   have HY:=hd_ hy;have HZ:=hd_ (Zf (zl9 x y) hyz);have HTK:=hd_ (show (T.set k (zi4 x y))[k]? = some (zi4 x y) by rw[Yb (by rw[HI.out.len];exact hlk)])
   have HST2:Hid (zi4 x y=zi4 p.kp[k] q.kp[k]):=hd_ (congr (congrArg zi4 HX) hy).symm;have HS2:=hd_ (HI.put hlk (zi4 x y));generalize zi4 x y=z at HTR HZ HTK HS2 HST2;have hsub:=fun X=>zl5 (P:=Tryz.prog) (t:=29) (n:=q.kp.length) (c:=cv) (k:=k) (g:=g) Tryz.underlying29 zcr (by have:=HCV.out;omega) X
   clear hTk hy hyz;have hxz:(k:Int)<(q.kp.length:Int):=by omega
   go_upto_region 9 with (go_at_call 110;refine (HT _).mono ?_;rintro e w' ⟨rfl,rfl⟩)
   have hx2:(1:Int)<=(x.size:Int):=by omega
   have d0:wr.drew.cell? ⟨g,k,none⟩=some (zS y):=t0;have d1:wr.drew.frozen? ⟨g,k,none⟩=false:=t1;refine wp_region_noPanic ?_;go_region_law (go_simp;go_at_call 219;refine (HTR _).mono ?_;rintro e w5 ⟨rfl,rfl⟩)
   refine NoPanic.normal ?_;have HS3:=hd_ (HS2.ku (Zb _ _).drew);clear d0 d1 t0 t1 s0 HTR HS2;generalize (wr.setCell ⟨g,k,none⟩ (zS z)).drew=W5 at HS3 |-;have hk:=‹∀(a:Act) (w:zW),Code.wp _ _ _ a w->_›;refine hk _ _ ?_;clear hk;have HS4:=hd_ (HS3.ku ((Zb W5.heap.size W5).alloc (Zd _) (zC #[zL (some ⟨g,k,none⟩) 1 1,.bool false] 213)));have hrw:=z0i W5 [zL (some ⟨g,k,none⟩) 1 1,.bool false] 213 2 1 rfl (by decide) _ rfl
   have hsz:w2.heap.size<=(W5.alloc (zC #[zL (some ⟨g,k,none⟩) 1 1,.bool false] 213)).heap.size:=HS4.out.low.size;have hk12:k<=12:=by omega
   obtain⟨Ab,cb,rfl⟩:=z0o HS4.out.bd;go_wp2_with (at_builtin;refine z0j rfl rfl zla HS4.bd rfl hrw rfl (by simp [Value.oneCell']) (by omega) (by unfold maxLen;omega) hsz ?_;intro A9 c9 w9 hown hgr hob;have HP9:=hd_ (HS4.push hlt hlk ((congrArg z8r HX).trans HST) HTK HST2 HZ hown hgr);clear hown hgr hob)
   go_roundw
   exact⟨k+1,_,_,by go_num,by omega,by simp;omega,HP9⟩
   simp [intOf];omega
 ·have hke:k=p.kp.length:=by omega
  subst hke;have HG4:=hd_ (Zi (HG.out.1.low HI.out.low) (HG.out.2.low HI.out.low));have hge:¬((p.kp.length:Int)<(p.kp.length:Int)):=by omega
  have x0:=HG4.out.1.c0;have x1:=HG4.out.1.c1;have y1:=HG4.out.2.c1;have HBD:=hd_ HI.bd;obtain⟨Ab,cb,rfl⟩:=z0o HI.out.bd;cases hpr:p.kr with
  | false =>
   rw[hpr] at x1;have HPR:=hd_ hpr;clear hpr;go_wp2_with fail;go_ret2;exact zlc HI HB rfl HPR
  | true =>
   rw[hpr] at x1;have HPR:=hd_ hpr;clear hpr;have hkz:bs.length<=12:=by omega
   have HHS:Hid (w2.heap.size<=(wr.alloc (zC #[zL A' (q.kp.length - p.kp.length) (q.kp.length - p.kp.length),.bool q.kr] 213)).drew.heap.size):=hd_ (Zf HI.low.size (by simp))
   have HS9:=hd_ (HI.ku (((Zb wr.heap.size wr).alloc (Zd _) (zC #[zL A' (q.kp.length - p.kp.length) (q.kp.length - p.kp.length),.bool q.kr] 213)).drew));go_upto_region 14 with fail;refine wp_region_noPanic ?_;go_region_law (refine step_app rfl rfl zla HS9.bd (by simp [Act.eval,Act.put]) (Row.drewN (z0i wr [zL A' (q.kp.length - p.kp.length) (q.kp.length - p.kp.length),.bool q.kr] _ 2 1 rfl (by decide) _ rfl) 1) (by simp [Act.eval,Act.put]) (by simp [Value.oneCell']) (by omega) (by unfold maxLen;omega) HHS ?_;intro A6 c6 w6 hO6 hG6 hw6)
   all_goals
    refine NoPanic.normal ?_;have HO6:=hd_ hO6;have HG6:=hd_ hG6;clear hO6 hG6 hw6;have hk:=‹∀(a:Act) (w:zW),Code.wp _ _ _ a w->_›;refine hk _ _ ?_;clear hk;go_wp2_with fail;go_ret2;exact zld HS9 HB rfl HPR hle HO6 HG6 HRW HQZ
open Go.Sort (grow)
def flH (h:Hav):Fl:=(h.kt,h.loc)
def prF (pl:List Syn)(L:List Nat)(k:Nat):List Syn:=(L.take k).filterMap fun i=>pl[i]?
theorem zoa {pl:List Syn}{L:List Nat}{k i:Nat}(hk:k<L.length)(hi:i<pl.length)(e:L[k]=i):prF pl L (k+1)=prF pl L k++[pl[i]]:=by
 unfold prF;rw[Zr hk,List.filterMap_append,e];simp [Ze hi]
structure Bk4 (X wr:zW)(B B2:Nat)(Ap:zP)(c bC:Nat)(hs:List Hav)(pl:List Syn)(N:Nat)(b:zA->Bool)(QH:List Hav)(qv:zV):Prop where
 mem:Bk3 X wr B B2 Ap c bC pl b QH qv
 st:BkSt hs pl b (QH.map flH)
 num:QH.length+zki b pl<=N
structure Bk5 (X wr:zW)(B B2:Nat)(Ap:zP)(c bC g13:Nat)(hs:List Hav)(pl:List Syn)(N:Nat)(b:zA->Bool)(QH:List Hav)(qv:zV)(h:Hav)(Ar:zP)(mr k:Nat):Prop where
 mem:Bk3 X wr B B2 Ap c bC pl b QH qv
 st:BkIn hs pl b (QH.map flH) h.kt h.loc (prF pl (zkq pl pl.length h.loc) k)
 num:QH.length+zki b pl<=N
 box:Blk wr g13 84 [zS h.kt,zI h.num,zS h.loc]
 far:B2<=g13
 row:wr.ownsRow X.heap.size 3 1 (zL Ar (zkq pl pl.length h.loc).length mr) (zkq pl pl.length h.loc).length (zkl (zkq pl pl.length h.loc))
 rup:∀ x,(zL Ar (zkq pl pl.length h.loc).length mr).ownBlock=some x->x<B2/\X.heap.size<=x
 qne:qv.ownBlock≠some g13
section
variable {X wr wx : zW} {B B2 g c bC g13 N k i mr : Nat} {Ap : zP} {hs : List Hav} {pl : List Syn} {b : zA -> Bool} {QH : List Hav} {qv : zV} {h : Hav} {Ar : zP}
theorem Bk5.ku (H:Bk5 X wr B B2 Ap c bC g13 hs pl N b QH qv h Ar mr k)(hb:zB wr wx)(hB:B<=B2):Bk5 X wx B B2 Ap c bC g13 hs pl N b QH qv h Ar mr k:=⟨H.mem.ku hb hB,H.st,H.num,H.box.kw hb H.box.lt,H.far,z0n H.row hb,H.rup,H.qne⟩
theorem Bk5.at_ (H:Bk5 X wr B B2 Ap c bC g13 hs pl N b QH qv h Ar mr k)(hk:k<(zkq pl pl.length h.loc).length):∃ ad,Ar=some ad/\ad.block<wr.heap.size/\wr.cell? (ad.add k)=some (zI ((zkq pl pl.length h.loc)[k]:Nat)):=by
 obtain⟨A',m',e,-,-,-,-,hx⟩:=Row.of_own H.row;injection e with e1 e2 e3
 obtain⟨ad,e4,hb,hc⟩:=hx (by omega)
 refine⟨ad,by rw[e1,e4],hb,hc k _ ?_⟩
 unfold zkl;rw[ZA,Ze hk];rfl
theorem Bk3.at3 (H:Bk3 X wr B B2 (some ⟨g,0,none⟩) c bC pl b QH qv)(hi:i<pl.length):z6e wr ⟨g,i * 5,none⟩ (z7u b pl[i])/\wr.frozen? ⟨g,i * 5,none⟩=false:=by
 have hk2:i<(z7v b pl).length:=by rw[zo9];exact hi
 have e:(z7v b pl)[i]=z7u b pl[i]:=by
  show (pl.map (z7u b))[i]'(by rw[Zk];exact hi)=_
  rw[List.getElem_map]
 have:=zj6.cell H.own hk2;rw[e] at this;exact this
theorem Bk5.skip (H:Bk5 X wr B B2 Ap c bC g13 hs pl N b QH qv h Ar mr k)(hk:k<(zkq pl pl.length h.loc).length)(hi:i<pl.length)(e:(zkq pl pl.length h.loc)[k]=i)(hx:pl[i].kt=h.kt\/z5d pl[i].kind=true\/b pl[i].kt=true):
  Bk5 X wr B B2 Ap c bC g13 hs pl N b QH qv h Ar mr (k+1):=⟨H.mem,by rw[zoa hk hi e];exact bk_skip H.st hx,H.num,H.box,H.far,H.row,H.rup,H.qne⟩
theorem com_at (hk:k<(zkq pl pl.length h.loc).length):∃ i,∃ hi:i<pl.length,(zkq pl pl.length h.loc)[k]=i/\pl[i].dst=h.loc/\pl[i].dst≠z2r:=by
 obtain⟨h1,x,h2,h3,h4⟩:=comF_lt (Za hk);refine⟨_,h1,rfl,?_⟩;rw[Ze h1] at h2;injection h2 with h2
 rw[h2];exact⟨h3,h4⟩
theorem Bk5.set_ (H:Bk5 X wr B B2 Ap c bC g13 hs pl N b QH qv h Ar mr k)(hg:g<X.heap.size)(hX2:X.heap.size<=B2)(u:zV):Blk (wr.setCell ⟨g,i * 5,none⟩ u) g13 84 [zS h.kt,zI h.num,zS h.loc]/\(wr.setCell ⟨g,i * 5,none⟩ u).ownsRow X.heap.size 3 1 (zL Ar (zkq pl pl.length h.loc).length mr) (zkq pl pl.length h.loc).length (zkl (zkq pl pl.length h.loc)):=
 ⟨Blk.far H.box (by show g≠g13;have:=H.far;omega) u,z5c H.row (p:=⟨g,i * 5,none⟩) (fun e=>by have:=(H.rup g e).2;omega) u⟩
theorem Bk5.markN (H:Bk5 X wr B B2 (some ⟨g,0,none⟩) c bC g13 hs pl N b QH qv h Ar mr k)(hOk:z81 hs)(hsrt:z7i pl)(hfrm:∀ x∈pl,x.frm=zk9 hs x.kt)(hB:B<=g)(hg:g<X.heap.size)(hX2:X.heap.size<=B2)(hC:X.heap.size<=bC)
  (hk:k<(zkq pl pl.length h.loc).length) (hi:i<pl.length) (e:(zkq pl pl.length h.loc)[k]=i) (hl:pl[i].dst=h.loc) (hd:pl[i].dst≠z2r) (hp:pl[i].kt≠h.kt) (hst:z5d pl[i].kind=false) (hb:b pl[i].kt=false) (hf:pl[i].frm=z2r):
  Bk5 X (wr.setCell ⟨g,i * 5,none⟩ (zI 5)) B B2 (some ⟨g,0,none⟩) c bC g13 hs pl N (setB b pl[i].kt) QH qv h Ar mr (k+1)/\QH.length+zki (setB b pl[i].kt) pl<=QH.length+zki b pl:=by
 have hm:=zkh hsrt hOk hfrm H.st (Za hi) hp hst hd hl;rw[if_pos hf,<- zoa hk hi e] at hm;have hn:=zkj (Za hi) hst hb;have hnum:=H.num;exact⟨⟨H.mem.mark_ hsrt hi hg hB hX2 hC,hm,by omega,(H.set_ hg hX2 _).1,H.far,(H.set_ hg hX2 _).2,H.rup,H.qne⟩,by omega⟩
theorem Bk5.markY {A':zP}{c':Nat}(H:Bk5 X wr B B2 (some ⟨g,0,none⟩) c bC g13 hs pl N b QH qv h Ar mr k)(hOk:z81 hs)(hsrt:z7i pl)(hfrm:∀ x∈pl,x.frm=zk9 hs x.kt)(hB:B<=g)(hg:g<X.heap.size)(hX2:X.heap.size<=B2)(hC:X.heap.size<=bC)
  (hk:k<(zkq pl pl.length h.loc).length) (hi:i<pl.length) (e:(zkq pl pl.length h.loc)[k]=i) (hl:pl[i].dst=h.loc) (hd:pl[i].dst≠z2r) (hp:pl[i].kt≠h.kt) (hst:z5d pl[i].kind=false) (hb:b pl[i].kt=false) (hf:¬ pl[i].frm=z2r)
  (hq:zj9 wx B2 84 3 (zL A' (QH.length+1) c') (QH.length+1) (QH.flatMap Hav.cells++[zS pl[i].kt,zI 0,zS pl[i].frm])) (hs2:zo8 (wr.setCell ⟨g,i * 5,none⟩ (zI 5)) wx qv) (hob:(zL A' (QH.length+1) c').ownBlock=qv.ownBlock\/∃ x,(zL A' (QH.length+1) c').ownBlock=some x/\(wr.setCell ⟨g,i * 5,none⟩ (zI 5)).heap.size<=x):
  Bk5 X wx B B2 (some ⟨g,0,none⟩) c bC g13 hs pl N (setB b pl[i].kt) (QH++[⟨pl[i].kt,0,pl[i].frm⟩]) (zL A' (QH.length+1) c') h Ar mr (k+1)/\(QH.length+1)+zki (setB b pl[i].kt) pl<=QH.length+zki b pl:=by
 have hm:=zkh hsrt hOk hfrm H.st (Za hi) hp hst hd hl;rw[if_neg hf,<- zoa hk hi e] at hm;have hn:=zkj (Za hi) hst hb;have hnum:=H.num;have hm3:=H.mem.mark_ hsrt hi hg hB hX2 hC;obtain⟨b1,b2⟩:=H.set_ (i:=i) hg hX2 (zI 5);have hlt:=H.mem.que.lt;refine⟨⟨hm3.push (y:=⟨pl[i].kt,0,pl[i].frm⟩) (by omega) (fun x e=>by injection e with e;have e':g=x:=e;omega) hq hs2,?_,by rw[Zc];simp;omega,?_,H.far,?_,H.rup,?_⟩,by omega⟩
 ·rw[Zs];exact hm
 ·exact (hs2.block b1.lt H.qne).trans b1
 ·refine⟨b2.1,?_⟩;rcases b2.2 with e4 | ⟨g',cap,cur,e1,h1,h2,h3⟩
  ·exact .inl e4
  ·refine .inr ⟨g',cap,cur,e1,h1,(hs2.block (ZC.1 h2).1 (fun e2=>?_)).trans h2,h3⟩;have a1:=(hlt g' e2).1;have a2:=(H.rup g' (by rw[e1];rfl)).1
   omega
 ·rcases hob with e5 | ⟨x,e5,h5⟩
  ·rw[e5];exact H.qne
  ·rw[e5];intro e6;injection e6 with e6;have:=b1.lt;omega
end
theorem bkT17 (T:Code)(hT:Tryz.f74.body.bind (tailAt 17)=some T)(R:Ending->zW->Prop)(X w:zW)(B B2 g c bC N:Nat)(Ap:zP)(hs:List Hav)(pl:List Syn)(hAp:0<pl.length->Ap=some ⟨g,0,none⟩)(QH:List Hav)(Aq:zP)(cq:Nat)
  (hI:Bk4 X w B B2 Ap c bC hs pl N (fun _=>false) QH (zL Aq QH.length cq)) (hOk:z81 hs) (hsrt:z7i pl) (hfrm:∀ x∈pl,x.frm=zk9 hs x.kt)
  (hB:B<=g) (hg:g<X.heap.size) (hX2:X.heap.size<=B2) (hC:X.heap.size<=bC) (hn:pl.length<=1000000) (hN:N<=1000000)
  (hR:∀ w',zj6 w' B (zL Ap pl.length c) (z7v (blB hs pl) pl)->Below B X w'->R (.returned (.tuple #[])) w')
  (u0 u2 u3 u4 u6 u7 u9 gF gG gH gI gJ gK gL gM gN gO gP gQ gR gT gV gW gX gY gZ i6 i7 i8 ia ib ic ie ig ii ij ik il im io ip iq ir iu iv iw iy iz iA iB iC iD iE iF iG iH iI iJ iK iL iM iN iO iP iQ iR iS iT iU iV iW iX iY iZ j0 j1 j2 j9 jb jd je jf jg jh ji jj jk jl jm jn jo jp jq jr js jt ju bB bD bE bF bG bH bI bJ bK bL bM bN bO bP bQ bT bU bV bW bX bY bZ ca cj cn cx cy:zV):
  T.wp Tryz.prog (bodyPost Tryz.prog Tryz.f74 R) ⟨#[u0,zL Ap pl.length c,u2,u3,u4,.map (some bC),u6,u7,zL Aq QH.length cq,u9,gF,gG,gH,gI,gJ,gK,gL,gM,gN,gO,gP,gQ,gR,gT,gV,gW,gX,gY,gZ,i6,i7,i8,ia,ib,ic,ie,ig,ii,ij,ik,il,im,io,ip,iq,ir,iu,iv,iw,iy,iz,iA,iB,iC,iD,iE,iF,iG,iH,iI,iJ,iK,iL,iM,iN,iO,iP,iQ,iR,iS,iT,iU,iV,iW,iX,iY,iZ,j0,j1,j2,j9,jb,jd,je,jf,jg,jh,ji,jj,jk,jl,jm,jn,jo,jp,jq,jr,js,jt,ju,bB,bD,bE,bF,bG,bH,bI,bJ,bK,bL,bM,bN,bO,bP,bQ,bT,bU,bV,bW,bX,bY,bZ,ca,cj,cn,cx,cy],[]⟩ w:=by
 simp only[Tryz.f74,Zp,tailAt,hasReg] at hT
 simp at hT
 subst hT;have HI:=hd_ hI;have HOK:=hd_ hOk;have HSRT:=hd_ hsrt;have HFRM:=hd_ hfrm;have HR:=hd_ hR;have hBB:B<=B2:=by omega
 clear hI hOk hsrt hfrm hR;go_wp2_with fail;go_loopg [8] (N+1) (fun gk q wr=>∃(b:zA->Bool) (QH:List Hav) (A:zP) (cq:Nat),q=zL A QH.length cq/\QH.length+zki b pl<gk/\Hid (Bk4 X wr B B2 Ap c bC hs pl N b QH q))
 exact⟨fun _=>false,QH,Aq,cq,rfl,by have:=HI.out.num;omega,HI⟩
 clear HI;obtain⟨b,QH,A,cq,rfl,hgk,HS⟩:=hrel;cases QH with
 | nil =>
  have HF:=hd_ (HR wr (by rw[<- bk_over (by have:=HS.out.st;exact this)];exact HS.mem.own) HS.mem.low)
  clear HS;go_wp2_with fail;go_end0
  exact HF
 | cons h Q' =>
  have hqq:zj9 wr B2 84 3 (zL A (Q'.length+1) cq) (Q'.length+1) ((h :: Q').flatMap Hav.cells):=HS.out.mem.que;have hrow:z5s wr (zL A (Q'.length+1) cq) (h :: Q'):=hqq.row;obtain⟨-,ad,rfl,hab,s0,s1,s2⟩:=hrow.head;have hA:zB wr (wr.alloc (zC #[zS h.kt,zI h.num,zS h.loc] 84)):=zR;obtain⟨Ar,mr,hlk,hrw,hru,-⟩:=(HS.out.mem.com.keep (fun x hx _=>hA.block x (Zq hx HS.out.mem.b2))).look h.loc;have hpop:Bk3 X wr B B2 Ap c bC pl b (h :: Q') (zL (some ad) (Q'.length+1) cq):=HS.out.mem;have hqlt:=hqq.lt;have HS5:Hid (Bk5 X (wr.alloc (zC #[zS h.kt,zI h.num,zS h.loc] 84)) B B2 Ap c bC wr.heap.size hs pl N b Q' (zL (if cq=1 then some ad else some ⟨ad.block,ad.off+3,none⟩) Q'.length (cq - 1)) h Ar mr 0):=hd_
   ⟨(hpop.pop).ku hA hBB,by have:=HS.out.st;rw[ZN] at this;exact bk_pop this,by have:=HS.out.num;rw[Zz] at this;omega,z0l wr _ _,HS.mem.b2,hrw,hru,by
    intro e;have hlt:ad.block<wr.heap.size:=hab;split at e
    ·injection e with e;omega
    ·injection e with e
     have e':ad.block=wr.heap.size:=e;omega⟩
  have hz:(0:Int)<((Q'.length+1:Nat):Int):=by omega
  have hgk2:Q'.length+zki b pl+1<gk:=by rw[Zz] at hgk;omega
  have HLK:=hd_ hlk;clear hA hlk hrw hru hpop hqlt hqq hrow HS hgk;dsimp only [List.length_cons]
  go_upto_region 20 with fail;have hl:=HLK.out _ rfl;generalize (if cq=1 then some ad else some ⟨ad.block,ad.off+3,none⟩)=A1 at HS5 |-;generalize cq - 1=c1 at HS5 |-;generalize wr.heap.size=g13 at HS5 |-;generalize wr.alloc (zC #[zS h.kt,zI h.num,zS h.loc] 84)=W1 at HS5 hl |-;clear HLK hab s0 s1 s2 hz;have d2:W1.cell? ⟨g13,2,none⟩=some (zS h.loc):=HS5.box.cell 2;obtain⟨L,hL⟩:∃ L,zkq pl pl.length h.loc=L:=⟨_,rfl⟩;have hLb:L.length<=1000000:=by rw[<- hL];exact Zf (zks _ _ _) hn
  have HL:=hd_ hL;rw[hL] at hl;clear hL;go_wp2_with fail;clear hl d2;go_loopw [8,83] (fun q i wq=>∃(b:zA->Bool) (QH:List Hav) (A:zP) (cq k:Nat),q=zL A QH.length cq/\i=zI k/\k<=L.length/\QH.length+zki b pl+1<gk/\Hid (Bk5 X wq B B2 Ap c bC g13 hs pl N b QH q h Ar mr k)) (fun _ i _=>L.length - (intOf i).toNat)
  exact⟨b,Q',_,_,0,rfl,rfl,Zg _,hgk2,HS5⟩
  clear HS5;obtain⟨b,QH,A,cq,k,rfl,rfl,hk,hgk,HJ⟩:=hrel;by_cases hlt:k<L.length
  ·have HLT2:=hd_ hlt;have hlt2:k<(zkq pl pl.length h.loc).length:=by rw[HL.out];exact hlt
   obtain⟨i,hi,hki,hdl,hde⟩:=com_at hlt2;obtain⟨ad2,rfl,hab,sI⟩:=HJ.out.at_ hlt2;rw[hki] at sI;have HKI:Hid (∀ hh:k<(zkq pl pl.length h.loc).length,(zkq pl pl.length h.loc)[k]=i):=hd_ (fun _=>hki);have HLT:=hd_ hlt2;have HDL:=hd_ hdl;have HDE:=hd_ hde;obtain rfl:=hAp (by omega)
   obtain⟨hsy,-⟩:=HJ.out.mem.at3 hi;have HSY:=hd_ hsy;clear hki hlt2 hdl hde hab hsy;go_upto_region 23 with fail;refine bkR23 _ (by kernel_rfl) _ wr g pl.length c i g13 (z7u b pl[i]) h.kt HSY (HJ.box.cell 0) hi ?_
   intro fY fZ gf gg gh gu gx gy gz gA gC gD gE aa w2 hb2;have HJ2:=hd_ (HJ.ku hb2 hBB);have HPA:=hd_ (z7w b pl[i]);have HMS:=hd_ (z7y b pl[i]);clear HSY HJ hb2 sI;cases hbb:(decide ((z7u b pl[i]).kt=h.kt) || z5d (z7u b pl[i]).kind) with
   | true =>
    have HN:=hd_ (HJ2.skip HLT hi (HKI _) (by
     rcases Bool.or_eq_true_iff.1 hbb with e | e
     ·exact .inl (by rw[<- HPA.out];exact of_decide_eq_true e)
     ·rw[HMS.out] at e;rcases Bool.or_eq_true_iff.1 e with e | e
      ·exact .inr (.inr e)
      ·exact .inr (.inl e)))
    clear hbb;go_wp2_with fail;go_roundw
    exact⟨b,QH,A,cq,k+1,rfl,by go_num,by have:=HLT2.out;omega,hgk,HN⟩
    have:=HLT2.out;simp [intOf];omega
   | false =>
    obtain⟨e1,e2⟩:=(Bool.or_eq_false_iff).1 hbb;have hp:pl[i].kt≠h.kt:=by
     rw[<- HPA.out];exact of_decide_eq_false e1
    rw[HMS.out] at e2;obtain⟨e3,e4⟩:=(Bool.or_eq_false_iff).1 e2;have HP:=hd_ hp;have HE3:=hd_ e3;have HE4:=hd_ e4;have HM3:=hd_ (HJ2.mem.mark_ HSRT hi hg hB hX2 hC);obtain⟨⟨y0,-,-,-,-⟩,fz⟩:=HJ2.out.mem.at3 hi;clear hbb e1 e2 e3 e4 hp;go_upto_region 25 with fail;clear y0 fz;obtain⟨⟨-,-,-,y3,-⟩,-⟩:=HM3.out.at3 hi;rw[(z7x _ _).2.1] at y3;by_cases hf:pl[i].frm=z2r
    ·obtain⟨HN,hnum⟩:=HJ2.out.markN HOK.out HSRT.out HFRM.out hB hg hX2 hC HLT.out hi (HKI.out _) HDL.out HDE.out HP.out HE4.out HE3.out hf;have HN:=hd_ HN;obtain⟨s1,s2⟩:=z5k hf;clear HM3 hf;generalize w2.setCell ⟨g,i * 5,none⟩ (zI 5)=W3 at HN y3 |-;generalize setB b pl[i].kt=b2 at HN hnum;generalize pl[i].frm=fr at y3 s1 s2;go_wp2_with fail;go_roundw
     exact⟨b2,QH,A,cq,k+1,rfl,by go_num,by have:=HLT2.out;omega,by omega,HN⟩
     have:=HLT2.out;simp [intOf];omega
    ·have HF:=hd_ hf;obtain⟨s1,s2⟩:=z5l hf;have HY:=hd_ (fun(A':zP) (c':Nat) (wx:zW) h1 h2 h3=>HJ2.markY (A':=A') (c':=c') (wx:=wx) HOK HSRT HFRM hB hg hX2 hC HLT hi (HKI _) HDL HDE HP HE4 HE3 HF h1 h2 h3);have HQL:=hd_ (show QH.length<=1000000 by have:=HJ2.out.num;omega)
     obtain⟨⟨-,y1,-,-,-⟩,-⟩:=HM3.out.at3 hi;rw[z7w] at y1;have HY1:=hd_ y1;have HY3:=hd_ y3;have HI2:=hd_ hi;clear hf y1;generalize w2.setCell ⟨g,i * 5,none⟩ (zI 5)=W3 at HM3 HY HY1 HY3 y3 |-;generalize setB b pl[i].kt=b2 at HY HM3;generalize pl[i].frm=fr at HY y3 HY3 s1 s2;generalize pl[i].kt=pt at HY HY1;go_upto_region 26 with fail;refine bkR26 _ (by kernel_rfl) _ W3 g pl.length c i QH.length cq B2 A (QH.flatMap Hav.cells) pt fr HM3.que HY1 HY3 HI2 HM3.b2 (by omega) (by have:=HQL.out;omega) ?_
     intro ap aq ar au aw ax ay aA aB aC aD aE aF aG A' c' w4 HO;obtain⟨HN,hnum⟩:=HY.out A' c' w4 HO.out.1 HO.out.2.1 HO.out.2.2;have HN:=hd_ HN;clear HY HO HM3;go_wp2_with fail;go_roundw
     exact⟨b2,QH++[⟨pt,0,fr⟩],A',c',k+1,by rw[Zc];rfl,by go_num,by have:=HLT2.out;omega,by rw[Zc];simp;omega,HN⟩
     have:=HLT2.out;simp [intOf];omega
  ·have hke:k=L.length:=by omega
   have HF:Hid (Bk4 X wr B B2 Ap c bC hs pl N b QH (zL A QH.length cq)):=hd_ ⟨HJ.mem,bk_end HOK HJ.st (fun x hx hd hl=>by
    have he:=HL.out;obtain⟨i,hi,hx2⟩:=zkt hx hd;rw[hl] at hi;unfold prF;rw[he,hke,ZH,<- he];exact Yf.2 ⟨i,hi,hx2⟩),HJ.num⟩
   clear HJ hke hk;go_wp2_with fail;go_roundg (QH.length+zki b pl+1)
   case measure=>exact hgk
   case rel=>exact⟨b,QH,A,cq,rfl,by omega,HF⟩
