/- A part. -/
import Derived.Test.YtijghobkkdbhnaaGreatDoorMcw43
import Derived.Test.YtijghobkkdbhnaaGreatDoorMcw46
set_option linter.unusedVariables false
set_option linter.unusedSimpArgs false
set_option maxHeartbeats 16000000
set_option maxRecDepth 100000
namespace Go.Proofs.YtijghobkkdbhnaaGreatDoor
open Go.Proofs.Tryz
open Go.RowKit
structure Sc (X:World)(D:List Rev)(es:List zcv)(ch:Int)(hs:List Hav)(op dt:List ByteArray)(dv dr mv hv ov tv:Value):Prop where
 at_:zp0 X D es hs op dt dv mv hv ov tv
 env:Env X
 ok:PlOk D es
 hv:zek hs
 hl:hs.length≤6
 h6:∀ x∈hs,x.path∈zf0
 opl:op.length≤1000
 dtl:dt.length≤1000
 top:0≤zkw D∧zkw D≤100
section
variable {X X' : World} {D : List Rev} {k : Nat} {es : List zcv} {ch : Int} {hs : List Hav} {op dt : List ByteArray} {dv dr mv hv ov tv : Value}
theorem sc_of (h:ScOk D k es ch hs op dt)(ha:zp0 X D es hs op dt dv mv hv ov tv)(he:Env X):Sc X D es ch hs op dt dv dr mv hv ov tv:=
 ⟨ha,he,plOk_of h.dp (by omega) h.k8 h.es,h.hv,h.hl,h.h6,by have:=h.opl;omega,by have:=h.dtl;omega,zqb h.chg⟩
theorem Sc.under (h:Sc X D es ch hs op dt dv dr mv hv ov tv)(hb:zB X X'):Sc X' D es ch hs op dt dv dr mv hv ov tv:=
 ⟨h.at_.below hb,h.env.below hb,h.ok,h.hv,h.hl,h.h6,h.opl,h.dtl,h.top⟩
theorem Sc.wok (h:Sc X D es ch hs op dt dv dr mv hv ov tv){m:Int}:zek (zf5 D (zdc es) m):=h.ok.wok m
theorem Sc.wl (h:Sc X D es ch hs op dt dv dr mv hv ov tv){m:Int}:(zf5 D (zdc es) m).length≤100:=by
 have:(zf5 D (zdc es) m).length≤6:=zfa;omega
end
theorem scBox {X:World}{g:Nat}{ch:Int}{dv dr mv hv ov tv:Value}(h:Blk X g 31 [dv,dr,mv,.int .i64 ch,hv,ov,tv]):X.cell? ⟨g,0,none⟩=some dv∧X.cell? ⟨g,1,none⟩=some dr∧X.cell? ⟨g,2,none⟩=some mv∧X.cell? ⟨g,3,none⟩=some (.int .i64 ch)∧X.cell? ⟨g,4,none⟩=some hv∧X.cell? ⟨g,5,none⟩=some ov∧X.cell? ⟨g,6,none⟩=some tv:=
 ⟨h.cell 0,h.cell 1,h.cell 2,h.cell 3,h.cell 4,h.cell 5,h.cell 6⟩
theorem Sc.rplan {X:World}{D:List Rev}{es:List zcv}{ch:Int}{hs:List Hav}{op dt:List ByteArray}{dv dr mv hv ov tv:Value}(h:Sc X D es ch hs op dt dv dr mv hv ov tv){n:Nat}(hD:zm7 D n)(hM:znu es)(m:Int)(l:List Hav)(lv:Value)(hL:z4h X lv l)(hz:∀ x∈l,x.path.size≤2000000∧x.loc.size≤2000000):
  Calls prog 13 #[.agg #[dv,dr],mv,.int .i64 m,lv,ov,tv] X (zr4 X l (zet l (zf5 D (zdc es) m) op dt)):=
 zr5 D n es m l op dt dv dr mv lv ov tv X h.env h.at_.revs h.at_.ents hD h.ok.len hM h.ok.shw h.ok.fwd h.ok.num hL hz h.at_.opn h.at_.drt h.opl h.dtl
def SzS (l:List Syn):Prop:=∀ x∈l,x.path.size≤2000000∧x.dst.size≤2000000
theorem SzS.set {l:List Syn}(h:SzS l){k:Nat}{y:Syn}(hy:y.path.size≤2000000∧y.dst.size≤2000000):SzS (l.set k y):=fun x hx=>by
 rcases List.mem_or_eq_of_mem_set hx with h1 | rfl
 ·exact h x h1
 ·exact hy
theorem zr6 {r:Nat}(hr:r<zks.length):zks[r].size≤200:=(zem (zkt _ (List.getElem_mem hr))).2.1
theorem own_loc (w:World):(w.alloc (.cells (zks.map Value.string).toArray 9)).ownsRow w.heap.size 9 1 (.slice (some ⟨w.heap.size,0,none⟩) 8 8) 8 (zks.map .string):=
 ⟨rfl,.inr ⟨w.heap.size,8,_,rfl,Nat.le_refl _,z0l w _ _,by decide,by decide,rfl,rfl⟩⟩
def locQ:List ByteArray:=zks++[⟨#[]⟩,⟨#[120]⟩]
theorem plan_c0 {hs ws:List Hav}{op dt:List ByteArray}(h1:zek hs)(hl:hs.length≤6)(wl:ws.length≤6):zkm hs (zet hs ws op dt)=0∧(zet hs ws op dt).length≤12:=by
 have h2:(zet hs ws op dt).length≤hs.length+ws.length:=zmh;refine⟨?_,by omega⟩
 unfold zkm;rw[if_pos (zep.2 ⟨h1,by omega⟩),if_neg]
 have h3:=zj4 hs (zet hs ws op dt);omega
theorem zr7 (L:List Int)(A:Option Addr)(c:Nat)(l:List Syn)(A1:Option Addr)(c1:Nat)(w:World)(he:Env w)(hL:Row w 1 (.slice A L.length c) L.length (L.map fun(n:Int)=>.int .i64 n))(hA:∀ ad,A=some ad→ad.block<w.heap.size)
  (hl1:z57 w (.slice A1 l.length c1) l) (hn1:l.length * 6≤1048576) (hs1:∀ x∈l,x.path.size≤1048576∧x.frm.size≤1048576∧x.dst.size≤1048576):
  Calls prog 5 #[.slice A L.length c,.slice A1 l.length c1] w fun e w'=>e=.returned (.bool true)∧zB w w':=by
 have HMD:=hd_ (zqd L A c w he hL hA);have HKN:=hd_ (fun X (hX:Env X)=>zmr X hX);have HL1:=hd_ hl1;have HS1:Hid (SzS l):=hd_ fun x hx=>by have:=hs1 x hx;omega
 clear he hL hA hl1 hs1;go_enter func5,ntmps5;go_wp2_with fail;refine HMD.out.mono ?_;rintro e w1 ⟨dv,dr,mv,hv,ov,tv,U,g,D,k0,es,ch,hs,op,dt,rfl,hsc,hat,hT1,hU1,hg1,hb1,hen,Aq,cq,rfl⟩;dsimp only;obtain⟨Ad,cd,rfl,-⟩:=id hat.revs;obtain⟨Am,cm,rfl,-⟩:=id hat.ents.1;obtain⟨Ah,chh,rfl,-⟩:=id hat.havs;obtain⟨Ao,co,rfl,-⟩:=id hat.opn;obtain⟨At,ct,rfl,-⟩:=id hat.drt;have HS:=hd_ (sc_of (dr:=.slice Aq 0 cq) hsc hat hen);have HDP:=hd_ (And.intro hsc.dp (znv hsc.k8 hsc.es));clear HMD hsc hat hen;go_upto_region 2 with fail;have HB2:=hd_ (z0u hb1 (.cells #[.slice Ad D.length cd,.slice Aq 0 cq,.slice Am es.length cm,.int .i64 ch,.slice Ah hs.length chh,.slice Ao op.length co,.slice At dt.length ct] 31));have ha2:zB w1 (w1.alloc (.cells #[.slice Ad D.length cd,.slice Aq 0 cq,.slice Am es.length cm,.int .i64 ch,.slice Ah hs.length chh,.slice Ao op.length co,.slice At dt.length ct] 31)):=(Below.refl _ _).alloc (Nat.le_refl _) _;have HT2:=hd_ (hT1.below ha2);have HS2:=hd_ (HS.out.under ha2);have HX2:=hd_ (z0l w1 [.slice Ad D.length cd,.slice Aq 0 cq,.slice Am es.length cm,.int .i64 ch,.slice Ah hs.length chh,.slice Ao op.length co,.slice At dt.length ct] 31);have HU2:Hid (U≤w1.heap.size∧w.heap.size≤g):=hd_ ⟨hU1,hg1⟩;have HSZ2:Hid (w1.heap.size<(w1.alloc (.cells #[.slice Ad D.length cd,.slice Aq 0 cq,.slice Am es.length cm,.int .i64 ch,.slice Ah hs.length chh,.slice Ao op.length co,.slice At dt.length ct] 31)).heap.size):=hd_ (by simp)
 clear HS hb1 ha2 hT1 hU1 hg1;generalize w1.alloc (.cells #[.slice Ad D.length cd,.slice Aq 0 cq,.slice Am es.length cm,.int .i64 ch,.slice Ah hs.length chh,.slice Ao op.length co,.slice At dt.length ct] 31)=W2 at HB2 HS2 HX2 HT2 HSZ2 ⊢;generalize w1.heap.size=g3 at HX2 HU2 HSZ2 ⊢;obtain⟨x0,x1,x2,x3,x4,x5,x6⟩:=scBox HX2.out;have HHZ:Hid (∀ x∈hs,x.path.size≤2000000∧x.loc.size≤2000000):=hd_ fun x hx=>by have:=zkl HS2.out.hv x hx;omega
 have HC:=hd_ (HS2.out.rplan HDP.out.1 HDP.out.2 ch hs _ HS2.out.at_.havs HHZ.out);have hwl:(zf5 D (zdc es) ch).length≤6:=zfa;have hpc:=plan_c0 (op:=op) (dt:=dt) HS2.out.hv HS2.out.hl hwl;have HPZ:Hid (SzS (zet hs (zf5 D (zdc es) ch) op dt)):=hd_ fun x hx=>by have:=zmi HS2.out.hv HS2.out.wok hx;omega
 unfold zr4 at HC;rw[hpc.1,if_pos rfl] at HC;have hpl:=hpc.2;clear hpc hwl;generalize zet hs (zf5 D (zdc es) ch) op dt=PL at HC HPZ hpl;go_wp2_with fail;refine HC.out.mono ?_;rintro e w3 ⟨hb3,pv,rfl,hp3⟩;dsimp only;obtain⟨Ap,cp,rfl⟩:=z0o hp3;have HK3:Hid (z9s [g] W2 w3):=hd_ (z9s.below hb3);have HT3:=hd_ (HT2.out.below hb3);have HP3:=hd_ hp3;have hgU:g<U:=HT2.out.ltU;have hne:g3∉[g]:=by rw[List.mem_singleton];have:=HU2.out.1;omega
 have hgW:g<W2.heap.size:=by have h1:=HU2.out.1;have h2:=HSZ2.out;omega
 have HKS:Hid (∀ X,z9s [g] W2 X→Sc X D es ch hs op dt (.slice Ad D.length cd) (.slice Aq 0 cq) (.slice Am es.length cm) (.slice Ah hs.length chh) (.slice Ao op.length co) (.slice At dt.length ct)):=hd_ fun X hX=>⟨HS2.out.at_.keptN hX HT2.out.nosb,HS2.out.env.keptT HT2.out hX,HS2.out.ok,HS2.out.hv,HS2.out.hl,HS2.out.h6,HS2.out.opl,HS2.out.dtl,HS2.out.top⟩;have HKX:Hid (∀ X,z9s [g] W2 X→Blk X g3 31 [.slice Ad D.length cd,.slice Aq 0 cq,.slice Am es.length cm,.int .i64 ch,.slice Ah hs.length chh,.slice Ao op.length co,.slice At dt.length ct]):=hd_ fun X hX=>hX.blk HX2.out hne;have HKB:Hid (∀ X,z9s [g] W2 X→zB w X):=hd_ fun X hX=>HB2.out.trans (hX.to_below (fun s hs=>by rw[List.mem_singleton] at hs;have:=HU2.out.2;omega) HB2.out.size)
 have hhl:=HS2.out.hl;have HT19:=hd_ (fun(T:Code) hT (X:World) (ps:List Syn) (A2:Option Addr) (n2 c2:Nat) (hK:z9s [g] W2 X) (hS:z57 X (.slice A2 n2 c2) ps) (hz:SzS ps) (hn2:n2=ps.length) (hl:ps.length≤1000) =>
  ckT19 T hT (fun e w'=>e=.returned (.bool true)∧zB w w') X (HKS.out X hK).env g3 hs ps l Ah A2 A1 chh n2 c2 c1 hn2 (fun Y hY=>((HKX.out X hK).below hY (HKX.out X hK).lt).cell 4) (HKS.out X hK).at_.havs HHZ.out hhl hS (Row.below HL1.out (HKB.out X hK)) hz HS1.out hl hn1 HKN.out (fun Y hY=>⟨rfl,(HKB.out X hK).trans (hY.mono (HKB.out X hK).size)⟩))
 clear hb3 hp3 HC x0 x1 x2 x3 x4 x5 x6 HB2 HX2 HS2 HT2 HDP HKS HKX HKB HKN HL1 HS1 HHZ hne hgU HU2;go_upto_region 3 with fail;rename ∀ a w,Code.wp _ (Code.seq (Code.region 19 _ _) _) _ a w→_=>hk7
 have HK7:=hd_ hk7;clear hk7;by_cases hpos:0<PL.length
 rotate_left
 ·have hz0:¬((0:Int)<(PL.length:Int)):=by omega
  go_wp2_with fail;exact HK7.out _ _ (HT19.out _ (by kernel_rfl) w3 PL Ap _ cp HK3.out (Row.of_own HP3.out) HPZ.out rfl (by omega) _ _ _ _ _ _ _ _ _ _ _ _ _ _ _ _ _ _ _ _ _ _ _ _ _ _ _ _ _ _ _ _ _ _ _ _ _ _ _ _ _ _ _ _ _ _ _ _ _ _ _ _ _ _ _ _ _ _ _ _ _ _ _ _ _ _ _ _ _ _ _ _ _ _ _ _ _ _ _ _ _ _ _ _ _ _ _ _ _ _ _ _ _ _ _ _ _ _ _ _ _ _ _ _ _ _ _ _ _ _ _ _ _ _ _ _ _ _ _ _ _ _ _ _ _ _ _ _ _ _ _ _ _ _ _ _ _ _ _ _ _ _ _ _ _ _ _ _ _ _ _ _ _ _ _ _ _ _ _ _ _ _)
 have hz0:(0:Int)<(PL.length:Int):=by omega
 obtain⟨gp,cg,hsl,hBg,-⟩:=zj7.slice HP3.out hpos;injection hsl with hAp hn1' hc1'
 subst hAp;clear hn1' hc1';have hgp:gp≠g:=by omega
 have HC:=hd_ (zg1 U g 1000 (PL.length:Int) w3 HT3.out (by omega) (by omega))
 go_wp2_with fail;refine HC.out.mono ?_;rintro e w4 ⟨kk,rfl,hkk,hT4,hK4⟩;dsimp only;obtain⟨k,rfl⟩:∃ k:Nat,kk=(k:Int):=⟨kk.toNat,by have:=hkk.1;omega⟩
 have hk:k<PL.length:=by
  obtain⟨h1,h2,h3⟩:=hkk;by_cases h:1<(PL.length:Int)
  ·have:=h2 h;omega
  ·have:=h3 (by omega);omega
 have HK4:=hd_ (HK3.out.trans hK4);have HT4:=hd_ hT4;have HP4:Hid (zj7 w4 W2.heap.size (.slice (some ⟨gp,0,none⟩) PL.length cp) PL):=hd_ (zkv HP3.out hK4 (fun x hx=>by cases hx;rw[List.mem_singleton];exact hgp))
 clear hkk hT4 hK4 HC HK3 HT3 HP3;have HC:=hd_ (zg1 U g 1001 10 w4 HT4.out (by omega) (by omega))
 go_wp2_with fail;refine HC.out.mono ?_;rintro e w5 ⟨q,rfl,hq,hT5,hK5⟩;dsimp only;have HK5:=hd_ (HK4.out.trans hK5);have HT5:=hd_ hT5;have HP5:Hid (zj7 w5 W2.heap.size (.slice (some ⟨gp,0,none⟩) PL.length cp) PL):=hd_ (zkv HP4.out hK5 (fun x hx=>by cases hx;rw[List.mem_singleton];exact hgp))
 clear hq hT5 hK5 HC HK4 HT4 HP4;have HLT:=hd_ hk;have hkz:(k:Int)<(PL.length:Int):=by omega
 /- what a store into the plan leaves -/
 have HST:=hd_ (fun(X:World) (j:Nat) (u v:Value) (y:Syn) (hK:z9s [g] W2 X) (hO:zj7 X W2.heap.size (.slice (some ⟨gp,0,none⟩) PL.length cp) PL) (hj:j<5) (hv:PL[k].cells[j]? = some v) (hy:y.cells=PL[k].cells.set j u) =>
  (⟨(zj7.putC hO hk hj hv hy).1,by
   have h:=Row.of_own (zj7.putC hO hk hj hv hy).2;exact h,z9s.grown_own hK (z9t X gp (k * 5+j) u) (fun z e=>by cases e;exact hBg)⟩:(X.cell? ⟨gp,k * 5+j,none⟩=some v∧X.frozen? ⟨gp,k * 5+j,none⟩=false)∧z57 (X.setCell ⟨gp,k * 5+j,none⟩ u) (.slice (some ⟨gp,0,none⟩) PL.length cp) (PL.set k y)∧z9s [g] W2 (X.setCell ⟨gp,k * 5+j,none⟩ u)))
 have HNX:=hd_ (fun(X:World) (hX:zB w5 X) (n:Int) (hn:n≤1000000000)=>zg1 U g 1002 n X (HT5.out.below hX) (by omega) hn)
 have HOK6:=hd_ (fun(X:World) (hK:z9s [g] w5 X)=>(show z9s [g] W2 X∧zj7 X W2.heap.size (.slice (some ⟨gp,0,none⟩) PL.length cp) PL from ⟨HK5.out.trans hK,zkv HP5.out hK (fun x hx=>by cases hx;rw[List.mem_singleton];exact hgp)⟩))
 have HXS:=hd_ (HPZ.out PL[k] (List.getElem_mem hk));have HGL:=hd_ (show g<w5.heap.size from HT5.out.lt);have hcx:∀(X:World),z9s [g] W2 X→zj7 X W2.heap.size (.slice (some ⟨gp,0,none⟩) PL.length cp) PL→z58 X ⟨gp,k * 5,none⟩ PL[k]:=fun X _ hO=>(zj7.cell hO hk).1;have HCX:=hd_ hcx;clear hcx hk hgp hBg hgW;by_cases e0:q=0
 ·have n0:(q == 0)=true:=beq_iff_eq.2 e0;have HC:=hd_ (HNX.out w5 (Below.refl _ _) 8 (by omega))
  clear e0;go_wp2_with fail;refine HC.out.mono ?_;rintro e w6 ⟨r,rfl,-,-,hK6⟩;obtain⟨hKa,hOa⟩:=HOK6.out w6 hK6;obtain⟨⟨a0,af⟩,hS,hKb⟩:=HST.out w6 0 (.int .i64 r) _ (zj8 r PL[k]) hKa hOa (by decide) rfl rfl
  simp only[Nat.add_zero] at a0 af hS hKb
  have HF:=hd_ (And.intro hS hKb);clear hK6 hKa hOa hS hKb HC;go_wp2_with fail;exact HK7.out _ _ (HT19.out _ (by kernel_rfl) _ _ _ _ _ HF.out.2 HF.out.1 (HPZ.out.set HXS.out) List.length_set.symm (by rw[List.length_set];omega) _ _ _ _ _ _ _ _ _ _ _ _ _ _ _ _ _ _ _ _ _ _ _ _ _ _ _ _ _ _ _ _ _ _ _ _ _ _ _ _ _ _ _ _ _ _ _ _ _ _ _ _ _ _ _ _ _ _ _ _ _ _ _ _ _ _ _ _ _ _ _ _ _ _ _ _ _ _ _ _ _ _ _ _ _ _ _ _ _ _ _ _ _ _ _ _ _ _ _ _ _ _ _ _ _ _ _ _ _ _ _ _ _ _ _ _ _ _ _ _ _ _ _ _ _ _ _ _ _ _ _ _ _ _ _ _ _ _ _ _ _ _ _ _ _ _ _ _ _ _ _ _ _ _ _ _ _ _ _ _ _ _)
 have n0:(q == 0)=false:=beq_eq_false_iff_ne.2 e0;by_cases e1:q=1
 ·have n1:(q == 1)=true:=beq_iff_eq.2 e1;have HC:=hd_ (HNX.out w5 (Below.refl _ _) 3 (by omega))
  clear e0 e1;go_wp2_with fail;refine HC.out.mono ?_;rintro e w6 ⟨r,rfl,hr,-,hK6⟩;obtain⟨hKa,hOa⟩:=HOK6.out w6 hK6;obtain⟨⟨a0,af⟩,hS,hKb⟩:=HST.out w6 2 (.int .i64 (r - 1)) _ { PL[k] with num:=r - 1 } hKa hOa (by decide) rfl rfl
  have hwr:IntKind.i64.wrap (r - 1)=r - 1:=by rw[IntKind.wrap_i64];have h1:=hr.1;have h2:=hr.2.1 (by decide);omega
  have HF:=hd_ (And.intro hS hKb);clear hK6 hKa hOa hS hKb hr HC;go_wp2_with fail;exact HK7.out _ _ (HT19.out _ (by kernel_rfl) _ _ _ _ _ HF.out.2 HF.out.1 (HPZ.out.set HXS.out) List.length_set.symm (by rw[List.length_set];omega) _ _ _ _ _ _ _ _ _ _ _ _ _ _ _ _ _ _ _ _ _ _ _ _ _ _ _ _ _ _ _ _ _ _ _ _ _ _ _ _ _ _ _ _ _ _ _ _ _ _ _ _ _ _ _ _ _ _ _ _ _ _ _ _ _ _ _ _ _ _ _ _ _ _ _ _ _ _ _ _ _ _ _ _ _ _ _ _ _ _ _ _ _ _ _ _ _ _ _ _ _ _ _ _ _ _ _ _ _ _ _ _ _ _ _ _ _ _ _ _ _ _ _ _ _ _ _ _ _ _ _ _ _ _ _ _ _ _ _ _ _ _ _ _ _ _ _ _ _ _ _ _ _ _ _ _ _ _ _ _ _ _)
 have n1:(q == 1)=false:=beq_eq_false_iff_ne.2 e1;by_cases e2:q=2
 ·have n2:(q == 2)=true:=beq_iff_eq.2 e2;have HC1:=hd_ (zl0 w5);clear e0 e1 e2;go_wp2_with fail;refine HC1.out.mono ?_;rintro e w6 ⟨rfl,h6⟩;have hb6:zB w5 w6:=by rw[h6];exact (Below.refl _ _).alloc (Nat.le_refl _) _
  have hO6:w6.ownsRow w5.heap.size 9 1 (.slice (some ⟨w5.heap.size,0,none⟩) 8 8) 8 (zks.map .string):=by rw[h6];exact own_loc w5
  have HO7:=hd_ (z0v hO6 (.cells #[.string ⟨#[]⟩,.string ⟨#[120]⟩] 9));have HX7:=hd_ (hb6.alloc hb6.size (.cells #[.string ⟨#[]⟩,.string ⟨#[120]⟩] 9));have hrow:=z0i w6 [.string ⟨#[]⟩,.string ⟨#[120]⟩] 9 1 2 rfl (by decide) _ rfl
  clear h6 hb6 hO6 HC1;go_wp2_with (at_builtin;refine z0j (base:=w5.heap.size) rfl rfl zl2 HO7.out rfl hrow rfl (by simp [Value.oneCell']) (by omega) (by unfold maxLen;omega) HX7.out.size ?_;intro A9 c9 w9 hown9 hG9 hw9)
  have HX9:=hd_ (HX7.out.grown hG9 HX7.out.size (fun z e=>(HO7.out.lt z e).1));have HO9:Hid (w9.ownsRow w5.heap.size 9 1 (.slice A9 10 c9) 10 (locQ.map .string)):=hd_ hown9;have HC2:=hd_ (HNX.out w9 HX9.out 10 (by omega))
  clear hown9 hG9 hw9 hrow HO7 HX7;go_wp2_with fail;refine HC2.out.mono ?_;rintro e w7 ⟨r,rfl,hr,-,hK7⟩;obtain⟨r',rfl⟩:∃ r':Nat,r=(r':Int):=⟨r.toNat,by have:=hr.1;omega⟩
  have hr8:r'<locQ.length:=by have:=hr.2.1 (by decide);show r'<10;omega
  have hS7:Strs w7 (.slice A9 locQ.length c9) locQ:=Row.of_own (zkv HO9.out hK7 (fun x hx=>by have h1:=(HO9.out.lt x hx).1;have h2:=HGL.out;rw[List.mem_singleton];omega))
  obtain⟨ad9,rfl,-,c0⟩:=Strs.at_ hS7 hr8;have hrz:(r':Int)<10:=by have:locQ.length=10:=rfl;omega
  generalize locQ[r']=sx at c0;obtain⟨hKa,hOa⟩:=HOK6.out w7 ((z9s.below HX9.out).trans hK7);obtain⟨⟨a0,af⟩,hS,hKb⟩:=HST.out w7 3 (.string sx) _ { PL[k] with frm:=sx } hKa hOa (by decide) rfl rfl
  have HF:=hd_ (And.intro hS hKb);clear hK7 hKa hOa hS hKb hr HC2 hr8 hS7;go_wp2_with fail;exact HK7.out _ _ (HT19.out _ (by kernel_rfl) _ _ _ _ _ HF.out.2 HF.out.1 (HPZ.out.set HXS.out) List.length_set.symm (by rw[List.length_set];omega) _ _ _ _ _ _ _ _ _ _ _ _ _ _ _ _ _ _ _ _ _ _ _ _ _ _ _ _ _ _ _ _ _ _ _ _ _ _ _ _ _ _ _ _ _ _ _ _ _ _ _ _ _ _ _ _ _ _ _ _ _ _ _ _ _ _ _ _ _ _ _ _ _ _ _ _ _ _ _ _ _ _ _ _ _ _ _ _ _ _ _ _ _ _ _ _ _ _ _ _ _ _ _ _ _ _ _ _ _ _ _ _ _ _ _ _ _ _ _ _ _ _ _ _ _ _ _ _ _ _ _ _ _ _ _ _ _ _ _ _ _ _ _ _ _ _ _ _ _ _ _ _ _ _ _ _ _ _ _ _ _ _)
 have n2:(q == 2)=false:=beq_eq_false_iff_ne.2 e2;by_cases e3:q=3
 ·have n3:(q == 3)=true:=beq_iff_eq.2 e3;have HC1:=hd_ (zl0 w5);clear e0 e1 e2 e3;go_wp2_with fail;refine HC1.out.mono ?_;rintro e w6 ⟨rfl,h6⟩;have hb6:zB w5 w6:=by rw[h6];exact (Below.refl _ _).alloc (Nat.le_refl _) _
  have hB6:Blk w6 w5.heap.size 9 (zks.map Value.string):=by rw[h6];exact z0l w5 _ _
  have HB6:=hd_ hB6;have HX6:=hd_ hb6;have HC2:=hd_ (HNX.out w6 hb6 8 (by omega))
  clear h6 hb6 hB6 HC1;go_wp2_with fail;refine HC2.out.mono ?_;rintro e w7 ⟨r,rfl,hr,-,hK7⟩;obtain⟨r',rfl⟩:∃ r':Nat,r=(r':Int):=⟨r.toNat,by have:=hr.1;omega⟩
  have hr8:r'<zks.length:=by have:=hr.2.1 (by decide);show r'<8;omega
  have hB7:=hK7.blk HB6.out (by rw[List.mem_singleton];have:=HGL.out;omega)
  have c0:w7.cell? ⟨w5.heap.size,r',none⟩=some (.string zks[r']):=by rw[hB7.cell r',List.getElem?_map,List.getElem?_eq_getElem hr8];rfl
  have hlz:=zr6 hr8;have hrz:(r':Int)<8:=by have:zks.length=8:=rfl;omega
  generalize zks[r']=sx at c0 hlz;obtain⟨hKa,hOa⟩:=HOK6.out w7 ((z9s.below HX6.out).trans hK7);obtain⟨⟨a0,af⟩,hS,hKb⟩:=HST.out w7 4 (.string sx) _ { PL[k] with dst:=sx } hKa hOa (by decide) rfl rfl
  have HF:=hd_ (And.intro hS hKb);have HZ:=hd_ (SzS.set (k:=k) (y:={ PL[k] with dst:=sx }) HPZ.out ⟨HXS.out.1,by show sx.size≤_;omega⟩)
  clear hK7 hKa hOa hS hKb hr hB7 HC2 hlz hr8;go_wp2_with fail;exact HK7.out _ _ (HT19.out _ (by kernel_rfl) _ _ _ _ _ HF.out.2 HF.out.1 HZ.out List.length_set.symm (by rw[List.length_set];omega) _ _ _ _ _ _ _ _ _ _ _ _ _ _ _ _ _ _ _ _ _ _ _ _ _ _ _ _ _ _ _ _ _ _ _ _ _ _ _ _ _ _ _ _ _ _ _ _ _ _ _ _ _ _ _ _ _ _ _ _ _ _ _ _ _ _ _ _ _ _ _ _ _ _ _ _ _ _ _ _ _ _ _ _ _ _ _ _ _ _ _ _ _ _ _ _ _ _ _ _ _ _ _ _ _ _ _ _ _ _ _ _ _ _ _ _ _ _ _ _ _ _ _ _ _ _ _ _ _ _ _ _ _ _ _ _ _ _ _ _ _ _ _ _ _ _ _ _ _ _ _ _ _ _ _ _ _ _ _ _ _ _)
 have n3:(q == 3)=false:=beq_eq_false_iff_ne.2 e3;by_cases e4:q=4
 ·have n4:(q == 4)=true:=beq_iff_eq.2 e4;obtain⟨y0,y1,y2,y3,y4⟩:=HCX.out w5 HK5.out HP5.out;have HXE:=HXS;generalize hx:PL[k]=x at y0 y1 y2 y3 y4 HXE;have HOX:=hd_ (z0n HP5.out ((Below.refl w5.heap.size w5).alloc (Nat.le_refl _) (.cells #[.int .i64 x.kind,.string x.path,.int .i64 x.num,.string x.frm,.string x.dst] 50)));have HKX:=hd_ (HK5.out.under ((Below.refl w5.heap.size w5).alloc (Nat.le_refl _) (.cells #[.int .i64 x.kind,.string x.path,.int .i64 x.num,.string x.frm,.string x.dst] 50)));have hrow:=z0i w5 [.int .i64 x.kind,.string x.path,.int .i64 x.num,.string x.frm,.string x.dst] 50 5 1 rfl (by decide) _ rfl
  have hbs:W2.heap.size≤(w5.alloc (.cells #[.int .i64 x.kind,.string x.path,.int .i64 x.num,.string x.frm,.string x.dst] 50)).heap.size:=HKX.out.size;clear e0 e1 e2 e3 e4 hx HCX HST HXS HOK6 HNX;go_wp2_with (at_builtin;refine z0j (base:=W2.heap.size) rfl rfl zic HOX.out rfl hrow rfl (zid x) (by omega) (by unfold maxLen;omega) hbs ?_;intro A9 c9 w9 hown9 hG9 hw9)
  have HS9:Hid (z57 w9 (.slice A9 (PL.length+1) c9) (PL++[x])):=hd_ (by
   unfold z57;rw[List.length_append,List.length_singleton,z5c];exact Row.of_own hown9)
  have HK9:=hd_ (z9s.grown_own HKX.out hG9 (fun z e=>(HOX.out.lt z e).1));have HZ9:Hid (SzS (PL++[x])):=hd_ fun z hz=>by
   rcases List.mem_append.1 hz with h | h
   ·exact HPZ.out z h
   ·rw[List.mem_singleton.1 h];exact HXE.out
  have hl9:(PL++[x]).length≤1000:=by rw[List.length_append,List.length_singleton];omega
  clear hown9 hG9 hw9 hrow;go_wp2_with fail;exact HK7.out _ _ (HT19.out _ (by kernel_rfl) _ _ _ _ _ HK9.out HS9.out HZ9.out (by rw[List.length_append];rfl) hl9 _ _ _ _ _ _ _ _ _ _ _ _ _ _ _ _ _ _ _ _ _ _ _ _ _ _ _ _ _ _ _ _ _ _ _ _ _ _ _ _ _ _ _ _ _ _ _ _ _ _ _ _ _ _ _ _ _ _ _ _ _ _ _ _ _ _ _ _ _ _ _ _ _ _ _ _ _ _ _ _ _ _ _ _ _ _ _ _ _ _ _ _ _ _ _ _ _ _ _ _ _ _ _ _ _ _ _ _ _ _ _ _ _ _ _ _ _ _ _ _ _ _ _ _ _ _ _ _ _ _ _ _ _ _ _ _ _ _ _ _ _ _ _ _ _ _ _ _ _ _ _ _ _ _ _ _ _ _ _ _ _ _)
 have n4:(q == 4)=false:=beq_eq_false_iff_ne.2 e4;by_cases e5:q=5
 rotate_left
 ·have n5:(q == 5)=false:=beq_eq_false_iff_ne.2 e5;clear e0 e1 e2 e3 e4 e5;go_wp2_with fail;exact HK7.out _ _ (HT19.out _ (by kernel_rfl) w5 PL _ _ _ HK5.out (Row.of_own HP5.out) HPZ.out rfl (by omega) _ _ _ _ _ _ _ _ _ _ _ _ _ _ _ _ _ _ _ _ _ _ _ _ _ _ _ _ _ _ _ _ _ _ _ _ _ _ _ _ _ _ _ _ _ _ _ _ _ _ _ _ _ _ _ _ _ _ _ _ _ _ _ _ _ _ _ _ _ _ _ _ _ _ _ _ _ _ _ _ _ _ _ _ _ _ _ _ _ _ _ _ _ _ _ _ _ _ _ _ _ _ _ _ _ _ _ _ _ _ _ _ _ _ _ _ _ _ _ _ _ _ _ _ _ _ _ _ _ _ _ _ _ _ _ _ _ _ _ _ _ _ _ _ _ _ _ _ _ _ _ _ _ _ _ _ _ _ _ _ _ _)
 have n5:(q == 5)=true:=beq_iff_eq.2 e5;obtain⟨y0,y1,y2,y3,y4⟩:=HCX.out w5 HK5.out HP5.out;have HID:=hd_ (zl1 PL[k] w5);have HC6:=hd_ (fun(X:World) (hX:zB w5 X)=>HCX.out X (HK5.out.under hX) (HOK6.out X (z9s.below hX)).2);have HST5:=hd_ (fun(X:World) (hX:zB w5 X)=>HST.out X 0 (.int .i64 3) _ (zj8 3 PL[k]) (HOK6.out X (z9s.below hX)).1 (HOK6.out X (z9s.below hX)).2 (by decide) rfl rfl)
 generalize PL[k]=x at y0 y1 y2 y3 y4 HID HC6 HST5 HXS;generalize z3t x.kind=sb at HID;clear e0 e1 e2 e3 e4 e5 HCX HST HNX;go_wp2_with fail;refine HID.out.mono ?_;rintro e w6 ⟨rfl,hb6⟩;have HN6:=hd_ (show z9s [g] W2 w6∧z57 w6 (.slice (some ⟨gp,0,none⟩) PL.length cp) PL from ⟨(HOK6.out w6 (z9s.below hb6)).1,Row.of_own (HOK6.out w6 (z9s.below hb6)).2⟩);have HC7:=hd_ (HC6.out w6 hb6);have HS7:=hd_ (HST5.out w6 hb6);clear hb6 HID y0 y1 y2 y3 y4 HC6 HST5 HOK6;obtain⟨y0,y1,y2,y3,y4⟩:=HC7.out;cases sb
 ·go_wp2_with fail;exact HK7.out _ _ (HT19.out _ (by kernel_rfl) w6 PL _ _ _ HN6.out.1 HN6.out.2 HPZ.out rfl (by omega) _ _ _ _ _ _ _ _ _ _ _ _ _ _ _ _ _ _ _ _ _ _ _ _ _ _ _ _ _ _ _ _ _ _ _ _ _ _ _ _ _ _ _ _ _ _ _ _ _ _ _ _ _ _ _ _ _ _ _ _ _ _ _ _ _ _ _ _ _ _ _ _ _ _ _ _ _ _ _ _ _ _ _ _ _ _ _ _ _ _ _ _ _ _ _ _ _ _ _ _ _ _ _ _ _ _ _ _ _ _ _ _ _ _ _ _ _ _ _ _ _ _ _ _ _ _ _ _ _ _ _ _ _ _ _ _ _ _ _ _ _ _ _ _ _ _ _ _ _ _ _ _ _ _ _ _ _ _ _ _ _ _)
 by_cases hd:x.dst=z2q
 ·obtain⟨t1,t2⟩:=z40 hd;clear hd;go_wp2_with fail;exact HK7.out _ _ (HT19.out _ (by kernel_rfl) w6 PL _ _ _ HN6.out.1 HN6.out.2 HPZ.out rfl (by omega) _ _ _ _ _ _ _ _ _ _ _ _ _ _ _ _ _ _ _ _ _ _ _ _ _ _ _ _ _ _ _ _ _ _ _ _ _ _ _ _ _ _ _ _ _ _ _ _ _ _ _ _ _ _ _ _ _ _ _ _ _ _ _ _ _ _ _ _ _ _ _ _ _ _ _ _ _ _ _ _ _ _ _ _ _ _ _ _ _ _ _ _ _ _ _ _ _ _ _ _ _ _ _ _ _ _ _ _ _ _ _ _ _ _ _ _ _ _ _ _ _ _ _ _ _ _ _ _ _ _ _ _ _ _ _ _ _ _ _ _ _ _ _ _ _ _ _ _ _ _ _ _ _ _ _ _ _ _ _ _ _ _)
 ·obtain⟨t1,t2⟩:=z41 hd;obtain⟨⟨a0,af⟩,hS,hKb⟩:=HS7.out;simp only[Nat.add_zero] at a0 af hS hKb
  have HF:=hd_ (And.intro hS hKb);clear hd hS hKb HS7;go_wp2_with fail;exact HK7.out _ _ (HT19.out _ (by kernel_rfl) _ _ _ _ _ HF.out.2 HF.out.1 (HPZ.out.set HXS.out) List.length_set.symm (by rw[List.length_set];omega) _ _ _ _ _ _ _ _ _ _ _ _ _ _ _ _ _ _ _ _ _ _ _ _ _ _ _ _ _ _ _ _ _ _ _ _ _ _ _ _ _ _ _ _ _ _ _ _ _ _ _ _ _ _ _ _ _ _ _ _ _ _ _ _ _ _ _ _ _ _ _ _ _ _ _ _ _ _ _ _ _ _ _ _ _ _ _ _ _ _ _ _ _ _ _ _ _ _ _ _ _ _ _ _ _ _ _ _ _ _ _ _ _ _ _ _ _ _ _ _ _ _ _ _ _ _ _ _ _ _ _ _ _ _ _ _ _ _ _ _ _ _ _ _ _ _ _ _ _ _ _ _ _ _ _ _ _ _ _ _ _ _)
end Go.Proofs.YtijghobkkdbhnaaGreatDoor
/- SyncplanChecks, the second form: for every input whose bulk is at most 1048576 the statement returns true and leaves its arguments as they were. -/
namespace Go.Proofs.YtijghobkkdbhnaaGreatDoor.syncplanChecksRow
open Go.Proofs.Tryz
open Go.ChangeShapes Go.WideShapes Go.ChangeAt Go.RowKit Go.Proofs.YtijghobkkdbhnaaGreatDoor.cardBase
open Go.ChangeMaps (open_string shut_string)
theorem contract (H:Type)(enc:TypeId×Value→H)(W:World)(base:Nat)(args:Array Value)(ds gs:List (DataW H))(before:List MemPlace)
  (hval0:∀(j:Nat) t v,Tryz.f5.params[j]? = some t→args[j]? = some v→Value.okWide prog W .any base t v)
  (hW:DataW.Whole enc prog Tryz.f5.params.toList Rows.syncplanChecksSpec.vars false W args.toList ds gs before) (ts:List TypeId) (hwt:(DataW.weightsEach prog (Tryz.f5.params.toList++ts) (ds++gs)).all (·≤reachBytes)=true) (hsh:W.ShapedOpen prog) (hk:Rows.uptoSmall H (ds++gs)=true):
  Calls prog 5 args W fun e W'=>∃ v,e=.returned v∧Rows.syncplanChecksSpec.post enc prog Tryz.f5 false true false false W args v W':=by
 have he:Env W:=env_of hsh;have hW':=hW;have hval:∀(j:Nat) t v,Tryz.f5.params[j]? = some t→args[j]? = some v→Value.okWide prog W .any base t v:=hval0;obtain⟨p,q,hA0,hV,rfl,hfz,hnd⟩:=hW;have hA:DataW.TrodAll enc prog W 0 (fun _=>true) true Tryz.f5.params.toList args.toList ds p:=hA0;rw[Tryz.params5] at hA hval;obtain⟨v0,vs0,d0,ds0,p0,q0,hargs,rfl,rfl,h0,r0⟩:=trodAll_cons hA;obtain⟨v1,vs1,d1,ds1,p1,q1,rfl,rfl,rfl,h1,r1⟩:=trodAll_cons r0;obtain⟨rfl,rfl,rfl⟩:=trodAll_nil r1;obtain rfl:args=#[v0,v1]:=by cases args;simp_all
 obtain⟨rfl,rfl⟩:=trodVars_none hV;have k0:=h0;have lt0:∀ x∈p0,x.block<W.heap.size:=by obtain⟨m,hm⟩:=k0;exact DataW.trod_lt m _ _ _ hm
 obtain⟨l0,A0,c0,rfl,b0,z0⟩:=zr9 underlying22 underlying3 (by kernel_rfl) (hval 0 22 v0 rfl rfl) h0
 have k1:=h1;have lt1:∀ x∈p1,x.block<W.heap.size:=by obtain⟨m,hm⟩:=k1;exact DataW.trod_lt m _ _ _ hm
 have hbk:Rows.uptoBulk d1≤1048576:=by
  simp only[Rows.uptoSmall,decide_eq_true_eq,List.cons_append,List.nil_append,List.append_nil,Rows.uptoBulkAll] at hk
  omega
 obtain⟨l1,A1,c1,rfl,b1,n1,s1⟩:=upto.syns_arg (hval 1 43 v1 rfl rfl) h1 hbk;clear hA0 hval0;refine (zr7 l0 A0 c0 l1 A1 c1 W he b0 z0 b1 n1 s1).mono fun e W' ⟨he,bel⟩=>?_;subst he;exact⟨_,rfl,_,_,_,[],_,[],hW',trodAll_mk1 (shut_bool underlying4 _),(trodAll_cons_mk (Below.trod laidOut (by kernel_rfl) (of_decide_eq_true (by kernel_rfl)) k0 bel lt0) (trodAll_cons_mk (Below.trod laidOut (by kernel_rfl) (of_decide_eq_true (by kernel_rfl)) k1 bel lt1) trodAll_mk0)),rfl,bel.frame _,fun h=>by cases h⟩
theorem laid_met (os:Os):laidMet prog Rows.syncplanChecksUptoRow.laid ((laidWorld os).forCall (fun _ _=>0) ⟨#[],#[.slice none 0 0,.slice none 0 0],[]⟩).memory:=
 laidMet_of_run' 8 (by kernel_rfl) (by kernel_rfl)
theorem reads (os:Os){H:Type}(enc:TypeId×Value→H):∃ places,DataW.whole enc prog ((laidWorld os).forCall (fun _ _=>0) ⟨#[],#[.slice none 0 0,.slice none 0 0],[]⟩).memory Tryz.f5.params.toList Rows.syncplanChecksSpec.vars false (#[.slice none 0 0,.slice none 0 0]:Array Value).toList 8=some ([.nil,.nil],[],places):=
 ⟨[],by kernel_rfl⟩
theorem lifted (os:Os)(started:os.Started)(H:Type)(enc:TypeId×Value→H)(F:Stop.Interp):
  ReturnsInHanded {} Tryz.checked os 5 .any ((Rows.OpenSpec.upto Rows.syncplanChecksSpec).preRow enc prog Tryz.f5 Rows.syncplanChecksUptoRow.domain false Rows.syncplanChecksUptoRow.laid) (((Rows.OpenSpec.upto Rows.syncplanChecksSpec).at F).post enc prog Tryz.f5 false true false false):=by
 obtain⟨places,hx⟩:=reads os enc;refine returnsInHanded_of_row (C:=Tryz.checked) (s:=Rows.OpenSpec.upto Rows.syncplanChecksSpec) own started (by kernel_rfl) func5
  (witness_row_at (enc:=enc) (C:=Tryz.checked) false (laidWorld os) #[.slice none 0 0,.slice none 0 0] rfl (by kernel_rfl) (by kernel_rfl) (by kernel_rfl)
   (OpenSpec.preRow_of_cond 8 hx (by kernel_rfl) (fun k hk=>by cases hk;kernel_rfl) (by kernel_rfl) (laid_met os))) ?_
 intro W base args ds gs before hval hW _ hcond hwt _ hsh _;exact contract H enc W base args ds gs before hval hW _ hwt hsh (hcond _ rfl)
end Go.Proofs.YtijghobkkdbhnaaGreatDoor.syncplanChecksRow
/- SyncplanChecks, the second form: for every input whose bulk is at most 1048576 the statement returns true and leaves its arguments as they were. -/
namespace Go.Proofs.YtijghobkkdbhnaaGreatDoor.syncplanChecksRow
open Go.Proofs.Tryz
open Go.ChangeShapes Go.WideShapes Go.ChangeAt Go.RowKit Go.Proofs.YtijghobkkdbhnaaGreatDoor.cardBase
open Go.ChangeMaps (open_string shut_string)
theorem said:Rows.SyncplanChecksUptoSaid:=
 OpenClaim.holds_of_cond 5 Tryz.f5 rfl rfl rfl rfl rfl rfl rfl ⟨rfl,rfl,rfl,rfl,rfl⟩ rfl rfl rfl rfl rfl (by as_aux_lemma=>kernel_rfl) func5 (by
   unfold joinedFacts;simp only[Bool.and_eq_true]
   repeat' apply And.intro
   all_goals (as_aux_lemma=>kernel_rfl))
  (of_decide_eq_true (by as_aux_lemma=>kernel_rfl)) (by unfold Func.isWrapper;first | (rw[if_pos (by decide +kernel)];kernel_rfl) | (rw[if_neg (by decide +kernel)];exact⟨rfl,rfl⟩))
  (fun os started H enc _ F=>by rw[OpenClaim.pre_eq_preRow];exact lifted os started H enc F)
end Go.Proofs.YtijghobkkdbhnaaGreatDoor.syncplanChecksRow
