/- A part. -/
import Derived.Test.YtlnjaagijaadmaaGreatDoorMvw41
import Derived.Test.YtlnjaagijaadmaaGreatDoorMvw30
import Derived.Test.YtlnjaagijaadmaaGreatDoorMvw37
set_option linter.unusedVariables false
set_option linter.unusedSimpArgs false
set_option maxHeartbeats 8000000
set_option maxRecDepth 100000
namespace Go.Proofs.YtlnjaagijaadmaaGreatDoor
open Go.Proofs.Tryz
open Go.RowKit
open Go.Sort (grow)
def zok (hs:List Hav)(pl:List Syn):Int:=if z5x hs=0 then (if 1024<(z6c hs pl).length then 351 else 0) else 350
def zol (w:zW)(hs:List Hav)(pl:List Syn)(e:Ending)(w':zW):Prop:=zB w w'/\∃ v,e=.returned (.tuple #[v,zI (zok hs pl)])/\z6d w' v (if zok hs pl=0 then pl else [])
theorem zol.bad {w w':zW}{hs:List Hav}{pl:List Syn}{c:Int}(hc:zok hs pl=c)(h0:c≠0)(hb:zB w w'):zol w hs pl (.returned (.tuple #[zL none 0 0,zI c])) w':=
 ⟨hb,_,by rw[hc],by rw[hc,if_neg h0];exact Row.nil_ _ 5⟩
theorem zol.good {w w':zW}{hs:List Hav}{pl:List Syn}{v:zV}(hc:zok hs pl=0)(hb:zB w w')(hv:z6d w' v pl):zol w hs pl (.returned (.tuple #[v,zI 0])) w':=
 ⟨hb,v,by rw[hc],by rw[hc,if_pos rfl];exact hv⟩
theorem zom (D:List Rev)(es:List zdk)(m:Int)(hs:List Hav)(op dt:List zA)(dv dr mv hv ov tv:zV)(w:zW)(he:Env w)(hR:z3w w dv D)(hE:zdo w mv es)(hl:D.length<=1000000)(h6:∀ r∈D,r.kt∈z8e)(hS:ze2 es)(hnum:∀ r∈D,1<=r.num)(hf:z8h (zdy es))
  (hH:z5s w hv hs) (hsz:∀ x∈hs,x.kt.size<=2000000/\x.loc.size<=2000000) (hop:z20 w ov op) (hdt:z20 w tv dt) (hopl:op.length<=1000) (hdtl:dt.length<=1000):
  Calls prog 33 #[.agg #[dv,dr],mv,zI m,hv,ov,tv] w (zol w hs (z8a hs (z8j D (zdy es) m) op dt)):=by
 obtain⟨Ah,ch,rfl,-⟩:=id hH;obtain⟨Ao,co,rfl,-⟩:=id hop;obtain⟨At,ct,rfl,-⟩:=id hdt;obtain⟨Ad,cd,rfl,-⟩:=id hR;have hwok:=z8m (m:=m) hnum hf;have hwl:(z8j D (zdy es) m).length<=6:=z8o;have HWN:=hd_ (fun X (hX:zB w X)=>znn D es m (zL Ad D.length cd) dr mv X (he.kw hX) (hR.kw hX) (hE.kw hX) hl h6 hS);generalize z8j D (zdy es) m=ws at *;have HHC:Hid (∀ X,zB w X->Calls prog 69 #[zL Ah hs.length ch] X fun e w'=>e=.returned (zI (z5x hs))/\zB X w'):=hd_ fun X hX =>
  z65 hs (zL Ah hs.length ch) X (Row.kw hH hX) (fun x hx=>by have:=hsz x hx;omega)
 have HH:=hd_ hH;have HOP:=hd_ hop;have HDT:=hd_ hdt;have HWOK:=hd_ hwok;obtain⟨d0,d1⟩:=(⟨(z0l w [zL Ad D.length cd,dr] 27).cell 0,(z0l w [zL Ad D.length cd,dr] 27).cell 1⟩:(w.alloc (zC #[zL Ad D.length cd,dr] 27)).cell? ⟨w.heap.size,0,none⟩=some (.slice Ad D.length cd)/\(w.alloc (zC #[zL Ad D.length cd,dr] 27)).cell? ⟨w.heap.size,1,none⟩=some dr);have hA:zB w (w.alloc (zC #[zL Ad D.length cd,dr] 27)):=zR;have HA:=hd_ hA;clear he hR hE hl h6 hS hnum hf hH hsz hop hdt hwok hA;go_enter func33,ntmps33;go_wp2_with fail;refine (HWN _ HA).mono ?_;rintro e w1 ⟨wv,rfl,hwv,hb1⟩;dsimp only;have HB1:=hd_ (z0r HA hb1);obtain⟨Aw,cw,rfl,-⟩:=id hwv;have HWV:=hd_ hwv;clear hb1 hwv d0 d1 HWN;go_wp2_with fail;refine (HHC _ HB1).mono ?_;rintro e w2 ⟨rfl,hb2⟩;dsimp only;have HB2:=hd_ (z0r HB1 hb2);by_cases hE:z5x hs=0
 rotate_left
 ·have HPC:Hid (zok hs (z8a hs ws op dt)=350):=hd_ (if_neg hE);have q0:(z5x hs != 0)=true:=by simpa using hE
  generalize z5x hs=cE at q0 |-;clear hE hb2 HHC;go_wp2_with fail;go_ret2;exact zol.bad HPC (by decide) HB2
 obtain⟨hOk,hhl⟩:=z86.1 hE;have HEZ:=hd_ hE;have HOK:=hd_ hOk;rw[hE];clear hE hOk;have HDF:=hd_ (zj5 hs ws (zL Ah hs.length ch) (zL Aw ws.length cw) w2 (Row.kw HH HB2) (Row.kw HWV hb2) (fun x hx=>by have:=zoj HOK.out x hx;omega) (fun x hx=>by have:=zoj HWOK.out x hx;omega) (by omega))
 clear hb2 HHC;go_wp2_with fail;refine HDF.mono ?_;rintro e w3 ⟨pv,rfl,ho3,hb3⟩;dsimp only;have hps:(z7n (hs.length+ws.length) hs ws).map (z88 op dt)=z89 hs ws op dt:=rfl;have hpl:=zoh (hs.length+ws.length) hs ws;generalize z7n (hs.length+ws.length) hs ws=ps at ho3 hps hpl;obtain⟨Ap,cp,rfl⟩:=z0o ho3;have HAP:Hid ((Ap=none/\ps.length=0)\/∃ g,w2.heap.size<=g/\g<w3.heap.size/\Ap=some ⟨g,0,none⟩):=hd_ (by
  rcases ho3.2 with⟨e1,e2⟩ | ⟨g,cap,cur,e1,e2,e3,-⟩
  ·injection e1 with e1
   exact .inl ⟨e1,e2⟩
  ·injection e1 with e1
   exact .inr ⟨g,e2,(ZC.1 e3).1,e1⟩)
 have HB3:=hd_ (z0r HB2 hb3);have HO3:=hd_ ho3;have HPS:=hd_ hps;have HBX:=hd_ hb3;have HS1:=hd_ (zo4 op (zL Ao op.length co) w3 (HOP.kw HB3) (by omega))
 clear ho3 hb3 hps HDF;go_upto_region 7 with fail;rename ∀ a w,Code.wp _ (Code.seq (Code.seq (Code.region 8 _ _) _) _) _ a w->_=>hk7
 have HK7:=hd_ hk7;clear hk7;go_wp2_with fail;refine HS1.mono ?_;rintro e w4 ⟨rfl,hs4,hb4⟩;dsimp only;have HB4:=hd_ (z0r HB3 hb4);have HS4:=hd_ hs4;have HBX4:=hd_ hb4;have HS2:=hd_ (zo4 dt (zL At dt.length ct) w4 (HDT.kw HB4) (by omega))
 clear hs4 hb4 HS1;go_wp2_with fail;refine HS2.mono ?_;rintro e w5 ⟨rfl,hs5,hb5⟩;dsimp only;go_wp2_with fail;have hB:w.heap.size<=w2.heap.size:=HB2.out.size;have hl3:w3.heap.size<w4.heap.size:=HS4.out.lt;have hl4:w4.heap.size<w5.heap.size:=hs5.lt;have hl23:w2.heap.size<=w3.heap.size:=HBX.out.size;have hB5:zB w w5:=z0r HB4 hb5;have hO5:zj6 w5 w2.heap.size (zL Ap ps.length cp) ps:=z0n (z0n HO3 HBX4) hb5;obtain⟨g8,h81,h82,h83,h84⟩:∃ g,w3.heap.size≠g/\w4.heap.size≠g/\w2.heap.size<=g/\(0<ps.length->Ap=some ⟨g,0,none⟩):=by
  rcases HAP.out with⟨-,e⟩ | ⟨g,e1,e2,e3⟩
  ·exact⟨w5.heap.size,by omega,by omega,by omega,fun h=>by omega⟩
  ·exact⟨g,by omega,by omega,e1,fun _=>e3⟩
 obtain⟨gB,hb1,hb2,hb3⟩:∃ g,w2.heap.size<=g/\g<w5.heap.size/\(0<ps.length->Ap=some ⟨g,0,none⟩):=by
  rcases HAP.out with⟨-,e⟩ | ⟨g,e1,e2,e3⟩
  ·exact⟨w2.heap.size,Zd _,by omega,fun h=>by omega⟩
  ·exact⟨g,e1,by omega,fun _=>e3⟩
 have hH2:∀ X,Below w2.heap.size w5 X->zB w X:=fun X hX=>hB5.trans (hX.mono hB);have hpz:∀ x∈z7v (blB hs (ps.map (z88 op dt))) (ps.map (z88 op dt)),x.kt.size<=2000000:=fun x hx=>by
  obtain⟨y,hy,rfl⟩:=ZD.1 hx;rw[z7w];rw[HPS.out] at hy;obtain⟨z,hz,rfl⟩:=ZD.1 hy;rcases z7p _ _ _ z hz with⟨h,h1,h2⟩ | ⟨h,h1,h2⟩
  ·have:=(zoj HOK.out h h1).1;show z.kt.size<=_
   rw[<- h2];omega
  ·have:=(zoj HWOK.out h h1).1;show z.kt.size<=_
   rw[<- h2];omega
 have hsp:=(z8d (op:=op) (dt:=dt) HOK.out HWOK.out).1;have hfr:=zoi (op:=op) (dt:=dt) HOK.out HWOK.out;rw[<- HPS.out] at hsp hfr;have hlm:(ps.map (z88 op dt)).length=ps.length:=Zk _;have hPL:z8a hs ws op dt=z7v (blB hs (ps.map (z88 op dt))) (ps.map (z88 op dt)):=by unfold z8a;rw[<- HPS.out]
 refine HK7 _ _ (plT8 _ (by kernel_rfl) _ w5 w2.heap.size w3.heap.size w4.heap.size g8 cp Ap ps op dt h84 ⟨by rw[List.take_zero,List.drop_zero];exact hO5,z2l.kw HS4 hb5,hs5,Zb _ _⟩ h81 h82 h83 (by omega) (by omega) hs (z6c hs (z7v (blB hs (ps.map (z88 op dt))) (ps.map (z88 op dt)))) Ah ch (z7v (blB hs (ps.map (z88 op dt))) (ps.map (z88 op dt))) (fun X hX hO=>?_) (fun X hX hO=>?_) (fun h X hX=>?_) (fun h X hX hO=>?_) _ _ _ _ _ _ _ _ _ _ _ _ _ _ _ _ _ _ _ _ _ _ _ _ _ _ _ _ _ _ _ _ _ _ _ _ _ _ _ _ _ _ _ _ _ _ _ _ _ _ _ _ _ _ _ _ _ _ _ _ _ _ _ _ _ _ _ _ _ _ _ _ _ _ _ _ _ _ _ _ _ _ _ _ _ _ _ _ _ _ _ _ _)
 ·have hbk:=zof hs (ps.map (z88 op dt)) Ah Ap ch gB cp w2.heap.size X (fun h=>hb3 (by rw[hlm] at h;exact h)) (Row.kw HH (hH2 X hX)) (by rw[hlm];exact hO) HOK hsp hfr hb1 (by have:=hX.size;omega) (by rw[hlm];omega) (by omega)
  rw[hlm] at hbk;exact hbk
 ·have hS:z6d X (zL Ap ps.length cp) (z7v (blB hs (ps.map (z88 op dt))) (ps.map (z88 op dt))):=Row.of_own hO;exact zo2 hs _ _ _ X (Row.kw HH (hH2 X hX)) hS (fun x hx=>by have:=(zoj HOK.out x hx).1;omega) hpz (by rw[zo9,hlm];omega)
 ·exact zol.bad (by unfold zok;rw[if_pos HEZ.out,hPL,if_pos h]) (by decide) (hH2 X hX)
 ·exact zol.good (by unfold zok;rw[if_pos HEZ.out,hPL,if_neg h]) (hH2 X hX) (by rw[hPL];exact Row.of_own hO)
theorem zon (D:List Rev)(es:List zdk)(m:Int)(hs:List Hav)(op dt:List zA)(dv dr mv hv ov tv:zV)(w:zW)(he:Env w)(hR:z3w w dv D)(hE:zdo w mv es)(hl:D.length<=1000000)(h6:∀ r∈D,r.kt∈z8e)(hS:ze2 es)(hnum:∀ r∈D,1<=r.num)(hf:z8h (zdy es))
  (hH:z5s w hv hs) (hOk:z81 hs) (hhl:hs.length<=100) (hop:z20 w ov op) (hdt:z20 w tv dt) (hopl:op.length<=1000) (hdtl:dt.length<=1000):
  Calls prog 33 #[.agg #[dv,dr],mv,zI m,hv,ov,tv] w (zog w (z8a hs (z8j D (zdy es) m) op dt)):=
 (zom D es m hs op dt dv dr mv hv ov tv w he hR hE hl h6 hS hnum hf hH (fun x hx=>by have:=zoj hOk x hx;omega) hop hdt hopl hdtl).mono fun e w' h=>by
  have hwl:(z8j D (zdy es) m).length<=6:=z8o;have hc:zok hs (z8a hs (z8j D (zdy es) m) op dt)=0:=by
   unfold zok;rw[if_pos (z86.2 ⟨hOk,by omega⟩),if_neg]
   have h1:=zo0 hs (z8a hs (z8j D (zdy es) m) op dt);have h2:(z8a hs (z8j D (zdy es) m) op dt).length<=hs.length+(z8j D (zdy es) m).length:=by
    unfold z8a z89;rw[zo9,Zk];exact zoh _ _ _
   omega
  obtain⟨hb,v,e1,hv⟩:=h;rw[hc] at e1 hv;rw[if_pos rfl] at hv;exact⟨v,e1,hv,hb⟩
section
variable {hs ws : List Hav} {op dt : List zA}
end
structure PlOk (D:List Rev)(es:List zdk):Prop where
 len:D.length<=1000
 six:∀ r∈D,r.kt∈z8e
 num:∀ r∈D,1<=r.num
 shw:ze2 es
 fwd:z8h (zdy es)
theorem plOk_of {D:List Rev}{n k:Nat}{es:List zdk}(hD:zoo D n)(hn:n<=1000)(hk:k<8)(he:es.map zdk.pl=zeb k):PlOk D es:=
 ⟨Zf hD.len hn,hD.six,zoq hD,(zej hk he).1,(z8q k).of_congr (zej hk he).2⟩
section
variable {D : List Rev} {es : List zdk} {hs : List Hav} {op dt : List zA} {dv dr mv hv ov tv : zV} {w : zW}
theorem zpy (h:PlOk D es)(m:Int)(he:Env w)(hR:z3w w dv D)(hE:zdo w mv es)(hH:z5s w hv hs)(hOk:z81 hs)(hl:hs.length<=100)(hop:z20 w ov op)(hdt:z20 w tv dt)(opl:op.length<=1000)(dtl:dt.length<=1000):
  Calls prog 33 #[.agg #[dv,dr],mv,zI m,hv,ov,tv] w (zog w (z8a hs (z8j D (zdy es) m) op dt)):=
 zon D es m hs op dt dv dr mv hv ov tv w he hR hE (by have:=h.len;omega) h.six h.shw h.num h.fwd hH hOk hl hop hdt opl dtl
end
def zpz:zA:=⟨#[47,47,99,47,97]⟩
def zq0:zA:=⟨#[47,47,99,47,98]⟩
def knRv (p:zA):Rev:=⟨p,1,1,1,⟨1,false,false,false⟩,1,1,z2r,0⟩
def knD:List Rev:=[knRv knA,knRv knB]
def knH:List Hav:=[⟨knA,1,zq0⟩,⟨knB,1,zpz⟩]
def knWs:List Hav:=[⟨knA,1,zpz⟩,⟨knB,1,zq0⟩]
def knX:Syn:=⟨3,knA,1,zq0,zpz⟩
def knY:Syn:=⟨6,knB,1,zpz,zq0⟩
theorem zq1:z8j knD (z8p 0) 1=knWs:=by kernel_rfl
theorem kn_hav:z81 knH:=by
 refine⟨?_,by decide +kernel,by decide +kernel⟩
 unfold z7h z71 knH;simp only[ZP,Zm,forall_eq,ZO,false_implies,implies_true,List.Pairwise.nil,and_true]
 decide +kernel
theorem zq2:z89 knH knWs [knB] []=[knX,knY]:=by
 have c1:¬ z30 knA knA<0:=by decide +kernel
 have c2:¬ 0<z30 knA knA:=by decide +kernel
 have d1:¬ z30 knB knB<0:=by decide +kernel
 have d2:¬ 0<z30 knB knB:=by decide +kernel
 have e1:¬(⟨knA,1,zq0⟩:Hav)=⟨knA,1,zpz⟩:=fun h=>by injection h with _ _ h;exact absurd h (by decide)
 have e2:¬(⟨knB,1,zpz⟩:Hav)=⟨knB,1,zq0⟩:=fun h=>by injection h with _ _ h;exact absurd h (by decide)
 have h:z7n 4 knH knWs=[⟨0,knA,1,zq0,zpz⟩,⟨0,knB,1,zpz,zq0⟩]:=by
  unfold knH knWs;simp only[z7n,if_neg c1,if_neg c2,if_neg d1,if_neg d2,if_neg e1,if_neg e2]
  rfl
 show (z7n 4 knH knWs).map (z88 [knB] [])=_
 rw[h];kernel_rfl
theorem kn_blA:blB knH [knX,knY] knA=true:=z7t.2 (Bl.stay (x:=knX) (y:=knY) (h:=⟨knB,1,zpz⟩) (Zj ..) rfl (by decide) (Zh _ (Zj ..)) rfl (by decide) (by kernel_rfl) rfl)
theorem kn_blB:blB knH [knX,knY] knB=false:=by
 have key:∀ p,Bl knH [knX,knY] p->p=knA:=by
  intro p h;have go:∀ x:Syn,x∈[knX,knY]->z5d x.kind=false->x.kt=knA:=fun x hx hk=>by
   simp only[Zn,ZO,or_false] at hx
   rcases hx with rfl | rfl
   ·rfl
   ·exact absurd hk (by decide)
  cases h with
  | free hx hk=>exact go _ hx hk
  | stay hx hk=>exact go _ hx hk
  | next hx hk=>exact go _ hx hk
 cases hb:blB knH [knX,knY] knB with
 | false=>rfl
 | true=>exact absurd (key knB (z7t.1 hb)) (by decide)
theorem kn_plan:z8a knH (z8j knD (z8p 0) 1) [knB] []=[⟨5,knA,1,zq0,zpz⟩,knY]:=by
 rw[zq1];unfold z8a;rw[zq2];show [z7u _ knX,z7u _ knY]=_
 unfold z7u;rw[show blB knH [knX,knY] knX.kt=true from kn_blA,show blB knH [knX,knY] knY.kt=false from kn_blB];rfl
theorem kn_plOk {es:List zdk}(he:es.map zdk.pl=zeb 0):PlOk knD es:=
 ⟨by decide,by decide +kernel,by decide +kernel,(zej (by decide) he).1,(z8q 0).of_congr (zej (by decide) he).2⟩
theorem kn_fwd {es:List zdk}(he:es.map zdk.pl=zeb 0):z8j knD (zdy es) 1=z8j knD (z8p 0) 1:=zek (zej (by decide) he).2
structure KnS (w X:zW)(g bl be bn gs:Nat)(Ae:zP)(ce:Nat):Prop where
 bel:zB w X
 chk:Chk X g (zL none 0 0) (zL none 0 0) 1 ⟨#[]⟩ ⟨#[]⟩ (zL Ae 2 ce) (zL none 0 0) bl be bn
 last:z4x X bl zf4
 ne:bl≠be
 eds:KnE X Ae ce
 boxD:Blk X w.heap.size 27 [zL none 0 0,zL none 0 0]
 boxC:Blk X (w.heap.size+1) 93 [zI 1,zS ⟨#[]⟩,zS ⟨#[]⟩,zL Ae 2 ce,zL none 0 0]
 boxR:Blk X (w.heap.size+1+1) 27 [zL none 0 0,zL none 0 0]
 stp:Blk X gs 136 [.func (.func 116) #[.pointer (some ⟨g,0,none⟩)] #[],.func (.func 117) #[.pointer (some ⟨g,0,none⟩)] #[],.func (.func 118) #[.pointer (some ⟨g,0,none⟩)] #[],.func (.func 119) #[.pointer (some ⟨g,0,none⟩)] #[],.func (.func 120) #[.pointer (some ⟨g,0,none⟩)] #[]]
theorem KnS.kw {w X X':zW}{g bl be bn gs:Nat}{Ae:zP}{ce:Nat}(h:KnS w X g bl be bn gs Ae ce)(hb:zB X X'):KnS w X' g bl be bn gs Ae ce:=
 ⟨z0r h.bel hb,h.chk.kw hb h.chk.lt,z2l.kw h.last hb,h.ne,h.eds.kw hb,h.boxD.kw hb h.boxD.lt,h.boxC.kw hb h.boxC.lt,h.boxR.kw hb h.boxR.lt,h.stp.kw hb h.stp.lt⟩
theorem KnS.every {w X X':zW}{g bl be bn gs:Nat}{Ae:zP}{ce:Nat}(h:KnS w X g bl be bn gs Ae ce)(ho:∃ es c,X.heap[be]? = some (.map es c))(hg:X.grownBy X' (some be))(hle:w.heap.size<=be):KnS w X' g bl be bn gs Ae ce:=
 ⟨h.bel.grown hg h.bel.size (fun k e=>by injection e with e;omega),Blk.turn h.chk ho hg,z2l.grown h.last hg (by intro e;injection e with e;exact h.ne e),h.ne,Row.turn h.eds (by decide) ho hg,Blk.turn h.boxD ho hg,Blk.turn h.boxC ho hg,Blk.turn h.boxR ho hg,Blk.turn h.stp ho hg⟩
def KnAp (w:zW)(e:Ending)(w':zW):Prop:=∃(A:zP) (c:Nat) (A2:zP) (c2:Nat),e=.returned (.tuple #[.agg #[zL A 2 c,zL A2 0 c2],zI 0])/\z3w w' (zL A 2 c) knD/\zB w w'
theorem zq3 {k:Nat}{p:zA}(hk:k<2)(h0:k=0->p=knA)(h1:k=1->p=knB):(knD.take (k+1)).flatMap Rev.cells=(knD.take k).flatMap Rev.cells++[zS p,zI 1,zI 1,zI 1,zI 1,.bool false,.bool false,.bool false,.int .u64 1,zI 1,zS ⟨#[]⟩,zI 0]:=by
 rcases (by omega:k=0\/k=1) with rfl | rfl
 ·rw[h0 rfl];rfl
 ·rw[h1 rfl];rfl
theorem zq4 (Ae:zP)(ce:Nat)(w:zW)(hE:KnE w Ae ce):Calls prog 32 #[.agg #[zL none 0 0,zL none 0 0],.agg #[zI 1,zS ⟨#[]⟩,zS ⟨#[]⟩,zL Ae 2 ce,zL none 0 0]] w (KnAp w):=by
 obtain⟨W1,hW1⟩:∃ W,W=((w.alloc (zC #[zL none 0 0,zL none 0 0] 27)).alloc (zC #[zI 1,zS ⟨#[]⟩,zS ⟨#[]⟩,zL Ae 2 ce,zL none 0 0] 93)).alloc (zC #[zL none 0 0,zL none 0 0] 27):=⟨_,rfl⟩;have hb1:zB w W1:=by rw[hW1];exact ((zR).alloc (by simp) _).alloc (by simp;omega) _
 have hs1:W1.heap.size=w.heap.size+1+1+1:=by rw[hW1];simp
 have hB1:Blk W1 w.heap.size 27 [zL none 0 0,zL none 0 0]:=by rw[hW1];exact ((z0l w _ _).alloc _).alloc _
 have hB2:Blk W1 (w.heap.size+1) 93 [zI 1,zS ⟨#[]⟩,zS ⟨#[]⟩,zL Ae 2 ce,zL none 0 0]:=by
  rw[hW1];have:=z0l (w.alloc (zC #[zL none 0 0,zL none 0 0] 27)) [zI 1,zS ⟨#[]⟩,zS ⟨#[]⟩,zL Ae 2 ce,zL none 0 0] 93;simp only[Zl] at this
  exact this.alloc _
 have hB3:Blk W1 (w.heap.size+1+1) 27 [zL none 0 0,zL none 0 0]:=by
  rw[hW1];have:=z0l ((w.alloc (zC #[zL none 0 0,zL none 0 0] 27)).alloc (zC #[zI 1,zS ⟨#[]⟩,zS ⟨#[]⟩,zL Ae 2 ce,zL none 0 0] 93)) [zL none 0 0,zL none 0 0] 27;simp only[Zl] at this
  exact this
 have HW1:=hd_ hW1;have HNC:=hd_ (knNew Ae ce W1);have HE:=hd_ hE;clear hW1 hE;go_enter func32,ntmps32;obtain⟨c0,c1,-,-⟩:=box2 hB1;obtain⟨d0,d1,d2,d3,d4⟩:=zgf hB2;go_upto_region 1 with fail;rw[<- HW1.out];go_wp2_with fail;refine HNC.mono ?_;rintro e w2 ⟨g,bl,be,bn,rfl,hK2⟩;have HK2:=hd_ hK2;clear c0 c1 d0 d1 d2 d3 d4 hK2;go_wp2_with fail;refine (knSteps g w2).mono ?_;rintro e w3 ⟨rfl,hb3,hs3⟩;have HST:Hid (KnS w w3 g bl be bn w2.heap.size Ae ce):=hd_ (by
  have k:=HK2.out;have hb13:zB W1 w3:=z0r k.bel hb3;have hbw:zB w w3:=z0r hb1 hb13;exact⟨hbw,k.chk.kw hb3 k.chk.lt,z2l.kw k.last hb3,k.ne,KnE.kw HE hbw,hB1.kw hb13 hB1.lt,hB2.kw hb13 hB2.lt,hB3.kw hb13 hB3.lt,hs3⟩)
 have HEM:Hid (∃ F,z4y w3 be F):=hd_ (by obtain⟨F,hF⟩:=HK2.out.edt;exact⟨F,z2l.kw hF hb3⟩)
 have HLE:Hid (w.heap.size<=be):=hd_ (by have:=HK2.out.le;omega)
 clear hb3 hs3 hB1 hB2 hB3 hb1 hs1 HK2 HNC HW1;generalize w2.heap.size=gs at HST |-;go_wp2_with fail;refine wp_loop_rounds 6 ?_;rw[rounds_succ];have t0:w3.cell? ⟨gs,0,none⟩=some (.func (.func 116) #[.pointer (some ⟨g,0,none⟩)] #[]):=HST.stp.cell 0;have HZ0:=hd_ (knSize g bl be bn Ae ce w3 HST.chk);go_wp2_with fail;refine HZ0.mono ?_;rintro e v0 ⟨rfl,hv⟩;have HS0:=hd_ (HST.kw hv);have HEM0:Hid (∃ F,z4y v0 be F):=hd_ (by obtain⟨F,hF⟩:=HEM.out;exact⟨F,z2l.kw hF hv⟩)
 clear hv t0 HZ0 HST HEM;go_wp2_with fail;rw[rounds_succ];have t1:v0.cell? ⟨gs,1,none⟩=some (.func (.func 117) #[.pointer (some ⟨g,0,none⟩)] #[]):=HS0.stp.cell 1;obtain⟨F,hF⟩:=HEM0.out;have HOB:=hd_ (z2l.obj hF);have HZ1:=hd_ (knEvery g bl be bn Ae ce v0 HS0.chk HS0.last HS0.ne HS0.eds hF);clear hF HEM0;go_wp2_with fail;refine HZ1.mono ?_;rintro e v1 ⟨rfl,hv⟩;have HS1:=hd_ (HS0.every HOB hv HLE);clear hv t1 HZ1 HS0 HOB;go_wp2_with fail;rw[rounds_succ];have t2:v1.cell? ⟨gs,2,none⟩=some (.func (.func 118) #[.pointer (some ⟨g,0,none⟩)] #[]):=HS1.stp.cell 2;have HZ2:=hd_ (knMoves g bl be bn Ae ce v1 HS1.chk HS1.eds);go_wp2_with fail;refine HZ2.mono ?_;rintro e v2 ⟨rfl,hv⟩;have HS2:=hd_ (HS1.kw hv);clear hv t2 HZ2 HS1;go_wp2_with fail;rw[rounds_succ];have t3:v2.cell? ⟨gs,3,none⟩=some (.func (.func 119) #[.pointer (some ⟨g,0,none⟩)] #[]):=HS2.stp.cell 3;have HZ3:=hd_ (knRecs g bl be bn Ae ce v2 HS2.chk);go_wp2_with fail;refine HZ3.mono ?_;rintro e v3 ⟨rfl,hv⟩;have HS3:=hd_ (HS2.kw hv);clear hv t3 HZ3 HS2;go_wp2_with fail;rw[rounds_succ];have t4:v3.cell? ⟨gs,4,none⟩=some (.func (.func 120) #[.pointer (some ⟨g,0,none⟩)] #[]):=HS3.stp.cell 4;have HZ4:=hd_ (knRoom g bl be bn Ae ce v3 HS3.chk);go_wp2_with fail;refine HZ4.mono ?_;rintro e v4 ⟨rfl,hv⟩;have HS4:=hd_ (HS3.kw hv);clear hv t4 HZ4 HS3;go_wp2_with fail;rw[rounds_succ];go_upto_region 9 with fail;refine knR9 _ (by kernel_rfl) _ w.heap.size (w.heap.size+1) (zL Ae 2 ce) v4 HS4.boxD HS4.boxC ?_
 intro eK eL eM eN eO eP eQ eR eS eT g10 v2' w5 H9;have HR0:=hd_ H9.1;obtain⟨A2,c2,hv2⟩:=H9.out.2;clear H9;subst hv2;have e3:w5.cell? ⟨w.heap.size+1,3,none⟩=some (.slice Ae 2 ce):=(HS4.kw HR0.bel).boxC.cell 3;go_wp2_with fail;clear e3;go_loopw [43] (fun s wr=>∃(k:Nat) (v1:zV),s=zI k/\k<=2/\Hid (WaR v4 wr g10 v1 (zL A2 0 c2) k ((knD.take k).flatMap Rev.cells))) (fun s _=>2 - (intOf s).toNat)
 exact⟨0,_,rfl,by omega,HR0⟩
 obtain⟨k,v1,rfl,hk,HK⟩:=hrel;by_cases hlt:k<2
 ·obtain⟨ad,p,rfl,hab,⟨x0,x1,x2,x3,x4,x5,x6,x7,x8,x9,x10,x11⟩,hp0,hp1⟩:=(HS4.out.kw HK.out.bel).eds.at_ k hlt;have HT:=hd_ (zq3 hlt hp0 hp1);have hX1:=z0l wr [zS p,zI 1,zI 1,.bool false,.bool false,.bool false,.int .u64 1,zI 1,zI 0,zS ⟨#[]⟩,zI 0,zI 0] 88;have hA1:zB wr (wr.alloc (zC #[zS p,zI 1,zI 1,.bool false,.bool false,.bool false,.int .u64 1,zI 1,zI 0,zS ⟨#[]⟩,zI 0,zI 0] 88)):=zR;have q2:decide ((k:Int)<2)=true:=by simp;omega
  clear hp0 hp1;go_upto_region 13 with fail;clear x0 x1 x2 x3 x4 x5 x6 x7 x8 x9 x10 x11;generalize wr.alloc (zC #[zS p,zI 1,zI 1,.bool false,.bool false,.bool false,.int .u64 1,zI 1,zI 0,zS ⟨#[]⟩,zI 0,zI 0] 88)=V1 at hX1 hA1 |-;have HRV2:=hd_ (fun X (hX:zB V1 X)=>zh1 p g bl be bn _ ce X ((HS4.kw (z0r (z0r HK.bel hA1) hX)).chk) ((HS4.kw (z0r (z0r HK.bel hA1) hX)).last));have HAR:=hd_ (HK.ku hA1);have HX1:=hd_ hX1;clear hX1;refine knR13 _ (by kernel_rfl) _ g g10 wr.heap.size k p v1 _ _ v4 V1 HAR HX1 (by omega) HRV2 ?_
  intro fd fe ff fg fh fj fk fm v3 w6 HQ;go_wp2_with fail;go_roundw
  case rel =>
   refine⟨k+1,v3,by go_num,by omega,?_⟩
   have:=HQ.out;rw[<- HT.out] at this;exact this
  case measure=>simp [intOf];omega
 ·have hkk:k=2:=by omega
  subst hkk;have hR2:=HK.out;obtain⟨A1,c1,hv1⟩:=z0o hR2.one;subst hv1;have HSR:=hd_ (fun X=>knSort A2 c2 (.func (.func 68) #[] #[]) X);have b1':wr.cell? ⟨g10,1,none⟩=some (.slice A2 0 c2):=hR2.box.cell 1;have HR2:=hd_ hR2;clear hR2 HK;have q2:decide ((2:Int)<2)=false:=by decide
  go_wp2_with fail;refine (HSR _).mono ?_;rintro e w6 ⟨rfl,rfl⟩;have hbx:=HR2.out.box;have hre:=(HS4.out.kw HR2.out.bel).boxR;have hbw:=(HS4.out.kw HR2.out.bel).bel;have hlt6:w.heap.size+1+1<v4.heap.size:=HS4.out.boxR.lt;have HBW:=hd_ hbw;clear b1' hbw;obtain⟨b0,b1,-,-⟩:=box2 hbx;obtain⟨r0,r1,f0,f1⟩:=box2 hre;go_wp2_with fail;have hR5:=(hre.set_ 0 (zL A1 2 c1)).set_ 1 (zL A2 0 c2);have hB5:=(HBW.out.setCell (p:=⟨w.heap.size+1+1,0,none⟩) (by simp;omega) (zL A1 2 c1)).setCell (p:=⟨w.heap.size+1+1,1,none⟩) (by simp;omega) (zL A2 0 c2)
  have hO5:=Row.of_own (z5c (z5c HR2.out.one (p:=⟨w.heap.size+1+1,0,none⟩) (fun e=>by have:=HR2.out.one.lt _ e;simp at this;omega) (zL A1 2 c1)) (p:=⟨w.heap.size+1+1,1,none⟩) (fun e=>by have:=HR2.out.one.lt _ e;simp at this;omega) (zL A2 0 c2))
  clear b0 b1 r0 r1 f0 f1 hre hbx;generalize (wr.setCell ⟨w.heap.size+1+1,0,none⟩ (zL A1 2 c1)).setCell ⟨w.heap.size+1+1,1,none⟩ (zL A2 0 c2)=W5 at hR5 hB5 hO5 |-;obtain⟨r0,r1,-,-⟩:=box2 hR5;exact bodyPost_ret (v:=.tuple #[.agg #[zL A1 2 c1,zL A2 0 c2],zI 0]) (by simp [results,results32,go_sem,r0,r1]) rfl ⟨A1,c1,_,_,rfl,hO5,hB5⟩
theorem neq_hav (x:Hav)(W:zW):(binOp .neq 84 (.agg #[zS x.kt,zI x.num,zS x.loc]) (.agg #[zS x.kt,zI x.num,zS x.loc])).run prog W=.ok (.bool false) W:=by
 rw[run_neq_struct,run_equalIn_agg W 9999 84 _ _ (by kernel_rfl) (by kernel_rfl)]
 simp [go_sem,Op.eqFields]
theorem neq_syn (x:Syn)(W:zW):(binOp .neq 99 (.agg #[zI x.kind,zS x.kt,zI x.num,zS x.frm,zS x.dst]) (.agg #[zI x.kind,zS x.kt,zI x.num,zS x.frm,zS x.dst])).run prog W=.ok (.bool false) W:=by
 rw[run_neq_struct,run_equalIn_agg W 9999 99 _ _ (by kernel_rfl) (by kernel_rfl)]
 simp [go_sem,Op.eqFields]
theorem zq5 (L:List Hav)(v u:zV)(w:zW)(h1:z5s w v L)(h2:z5s w u L):
  Calls prog 9 #[v,u] w fun e w'=>e=.returned (.bool true)/\zB w w':=by
 obtain⟨A1,c1,rfl,-,hmm,-⟩:=id h1;obtain⟨A2,c2,rfl,-⟩:=id h2;unfold maxLen at hmm;have hml:L.length<=9223372036854775807:=by obtain⟨A',c',e,h,-⟩:=id h1;injection e;omega
 have H1:=hd_ h1;have H2:=hd_ h2;clear h1 h2;have q0:((L.length:Int) != (L.length:Int))=false:=by simp
 go_enter func9,ntmps9;go_wp2_with fail;clear q0;go_loopw [5] (fun s wr=>∃ k:Nat,s=zI k/\k<=L.length/\Hid (zB w wr)) (fun s _=>L.length - (intOf s).toNat)
 exact⟨0,rfl,Zg _,Zb _ _⟩
 obtain⟨k,rfl,hk,HI⟩:=hrel;by_cases hlt:k<L.length
 ·obtain⟨a1,rfl,hb1,hx⟩:=z5s.at_ (Row.kw H1.out HI.out) hlt;obtain⟨a2,rfl,hb2,hy⟩:=z5s.at_ (Row.kw H2.out HI.out) hlt;have hz1:(k:Int)<(L.length:Int):=by omega
  generalize L[k]=r at hx hy;obtain⟨x0,x1,x2⟩:=hx;obtain⟨y0,y1,y2⟩:=hy;have hne:=neq_hav r;go_upto_region 6 with fail;go_quiet (fail)
  clear x0 x1 x2 y0 y1 y2 hne;go_wp2_with fail;go_roundw
  exact⟨k+1,by go_num,by omega,z0p HI _⟩
  simp [intOf];omega
 ·have HB:=hd_ HI;have hge:¬((k:Int)<(L.length:Int)):=by omega
  go_wp2_with fail;go_ret;exact⟨rfl,HB⟩
theorem zq6 (L:List Syn)(v u:zV)(w:zW)(h1:z6d w v L)(h2:z6d w u L):
  Calls prog 34 #[v,u] w fun e w'=>e=.returned (.bool true)/\zB w w':=by
 obtain⟨A1,c1,rfl,-,hmm,-⟩:=id h1;obtain⟨A2,c2,rfl,-⟩:=id h2;unfold maxLen at hmm;have hml:L.length<=9223372036854775807:=by obtain⟨A',c',e,h,-⟩:=id h1;injection e;omega
 have H1:=hd_ h1;have H2:=hd_ h2;clear h1 h2;have q0:((L.length:Int) != (L.length:Int))=false:=by simp
 go_enter func34,ntmps34;go_wp2_with fail;clear q0;go_loopw [5] (fun s wr=>∃ k:Nat,s=zI k/\k<=L.length/\Hid (zB w wr)) (fun s _=>L.length - (intOf s).toNat)
 exact⟨0,rfl,Zg _,Zb _ _⟩
 obtain⟨k,rfl,hk,HI⟩:=hrel;by_cases hlt:k<L.length
 ·obtain⟨a1,rfl,hb1,hx⟩:=z6d.at_ (Row.kw H1.out HI.out) hlt;obtain⟨a2,rfl,hb2,hy⟩:=z6d.at_ (Row.kw H2.out HI.out) hlt;have hz1:(k:Int)<(L.length:Int):=by omega
  generalize L[k]=r at hx hy;obtain⟨x0,x1,x2,x3,x4⟩:=hx;obtain⟨y0,y1,y2,y3,y4⟩:=hy;have hne:=neq_syn r;go_upto_region 6 with fail;go_quiet (fail)
  clear x0 x1 x2 x3 x4 y0 y1 y2 y3 y4 hne;go_wp2_with fail;go_roundw
  exact⟨k+1,by go_num,by omega,z0p HI _⟩
  simp [intOf];omega
 ·have HB:=hd_ HI;have hge:¬((k:Int)<(L.length:Int)):=by omega
  go_wp2_with fail;go_ret;exact⟨rfl,HB⟩
theorem zq7 (w:zW)(he:Env w):Calls prog 8 #[] w fun e w'=>e=.returned (.bool true)/\zB w w':=by
 have HE:=hd_ he;clear he;have hx1:=z0l w [zS ⟨#[47,47,100,47,97]⟩,zI 1,zI 1,.bool false,.bool false,.bool false,.int .u64 1,zI 1,zI 0,zS ⟨#[]⟩,zI 0,zI 0] 88;have hb1:zB w (w.alloc (zC #[zS ⟨#[47,47,100,47,97]⟩,zI 1,zI 1,.bool false,.bool false,.bool false,.int .u64 1,zI 1,zI 0,zS ⟨#[]⟩,zI 0,zI 0] 88)):=zR;go_enter func8,ntmps8;go_upto_region 2 with fail;generalize w.alloc (zC #[zS ⟨#[47,47,100,47,97]⟩,zI 1,zI 1,.bool false,.bool false,.bool false,.int .u64 1,zI 1,zI 0,zS ⟨#[]⟩,zI 0,zI 0] 88)=W1 at hx1 hb1 |-;obtain⟨g1,hg1⟩:∃ g,g=w.heap.size:=⟨_,rfl⟩;rw[<- hg1] at hx1 |-;obtain⟨x0,x1,x2,x3,x4,x5,x6,x7,x8,x9,x10,x11⟩:=z57 hx1;have hy2:=z0l W1 [zS ⟨#[47,47,100,47,97]⟩,zI 1,zI 1,.bool false,.bool false,.bool false,.int .u64 1,zI 1,zI 0,zS ⟨#[]⟩,zI 0,zI 0] 88;have HG1:=hd_ hg1;clear hg1;go_upto_region 3 with fail;have HB2:=hd_ (z0t hb1 (zC #[zS ⟨#[47,47,100,47,97]⟩,zI 1,zI 1,.bool false,.bool false,.bool false,.int .u64 1,zI 1,zI 0,zS ⟨#[]⟩,zI 0,zI 0] 88));have hx2:=hx1.alloc (zC #[zS ⟨#[47,47,100,47,97]⟩,zI 1,zI 1,.bool false,.bool false,.bool false,.int .u64 1,zI 1,zI 0,zS ⟨#[]⟩,zI 0,zI 0] 88);have hlt:g1<W1.heap.size:=hx1.lt;have hlw:=HB2.out.size;have hle2:w.heap.size<=W1.heap.size:=hb1.size;clear x0 x1 x2 x3 x4 x5 x6 x7 x8 x9 x10 x11 hx1 hb1 hlw;generalize W1.alloc (zC #[zS ⟨#[47,47,100,47,97]⟩,zI 1,zI 1,.bool false,.bool false,.bool false,.int .u64 1,zI 1,zI 0,zS ⟨#[]⟩,zI 0,zI 0] 88)=W2 at HB2 hx2 hy2 |-;generalize W1.heap.size=g2 at hy2 hlt hle2 |-;have f0:W2.cell? ⟨g2,0,none⟩=some (zS ⟨#[47,47,100,47,97]⟩):=hy2.cell 0;have f1:W2.frozen? ⟨g2,0,none⟩=false:=hy2.frozen 0
 go_upto_region 4 with fail;have hy3:=hy2.set_ 0 (zS ⟨#[47,47,100,47,98]⟩);have hx3:=hx2.far (p:=⟨g2,0,none⟩) (by show g2≠g1;omega) (zS ⟨#[47,47,100,47,98]⟩)
 have HB3:=hd_ (HB2.setCell (p:=⟨g2,0,none⟩) hle2 (zS ⟨#[47,47,100,47,98]⟩));clear f0 f1 hx2 hy2 HB2;generalize W2.setCell ⟨g2,0,none⟩ (zS ⟨#[47,47,100,47,98]⟩)=W3 at hy3 hx3 HB3 |-;obtain⟨x0,x1,x2,x3,x4,x5,x6,x7,x8,x9,x10,x11⟩:=z57 hx3;have hy3':Blk W3 g2 88 [zS ⟨#[47,47,100,47,98]⟩,zI 1,zI 1,.bool false,.bool false,.bool false,.int .u64 1,zI 1,zI 0,zS ⟨#[]⟩,zI 0,zI 0]:=hy3;obtain⟨y0,y1,y2,y3,y4,y5,y6,y7,y8,y9,y10,y11⟩:=z57 hy3';have HAP:=hd_ (zq4 (some ⟨W3.heap.size,0,none⟩) 2 (W3.alloc (zC #[zS ⟨#[47,47,100,47,97]⟩,zI 1,zI 1,.bool false,.bool false,.bool false,.int .u64 1,zI 1,zI 0,zS ⟨#[]⟩,zI 0,zI 0,zS ⟨#[47,47,100,47,98]⟩,zI 1,zI 1,.bool false,.bool false,.bool false,.int .u64 1,zI 1,zI 0,zS ⟨#[]⟩,zI 0,zI 0] 88)) (z0i W3 [zS ⟨#[47,47,100,47,97]⟩,zI 1,zI 1,.bool false,.bool false,.bool false,.int .u64 1,zI 1,zI 0,zS ⟨#[]⟩,zI 0,zI 0,zS ⟨#[47,47,100,47,98]⟩,zI 1,zI 1,.bool false,.bool false,.bool false,.int .u64 1,zI 1,zI 0,zS ⟨#[]⟩,zI 0,zI 0] 88 12 2 rfl (by decide) _ rfl))
 have HB4:=hd_ (z0t HB3 (zC #[zS ⟨#[47,47,100,47,97]⟩,zI 1,zI 1,.bool false,.bool false,.bool false,.int .u64 1,zI 1,zI 0,zS ⟨#[]⟩,zI 0,zI 0,zS ⟨#[47,47,100,47,98]⟩,zI 1,zI 1,.bool false,.bool false,.bool false,.int .u64 1,zI 1,zI 0,zS ⟨#[]⟩,zI 0,zI 0] 88));clear hy3 hx3 HB3;go_wp2_with fail;refine HAP.mono ?_;rintro e w5 ⟨A,c,A2,c2,rfl,hR5,hb5⟩;dsimp only;have HB5:=hd_ (z0r HB4 hb5);have HR5:=hd_ hR5;clear x0 x1 x2 x3 x4 x5 x6 x7 x8 x9 x10 x11 y0 y1 y2 y3 y4 y5 y6 y7 y8 y9 y10 y11 hy3' hR5 hb5 HAP HB4;go_upto_region 5 with fail;have HX6:=hd_ (z0l w5 [zL A 2 c,zL A2 0 c2] 27);have ha6:zB w5 (w5.alloc (zC #[zL A 2 c,zL A2 0 c2] 27)):=zR;have HB6:=hd_ (z0r HB5 ha6);have HR6:=hd_ (HR5.kw ha6);clear ha6 HR5 HB5;generalize w5.alloc (zC #[zL A 2 c,zL A2 0 c2] 27)=W6 at HX6 HB6 HR6 |-;generalize w5.heap.size=g6 at HX6 |-;go_upto_region 6 with fail;have hP1:=z0l W6 [zS ⟨#[100]⟩] 9;have hP2:=z0l (W6.alloc (zC #[zS ⟨#[100]⟩] 9)) [zS ⟨#[99]⟩] 9;have ha7:zB W6 (W6.alloc (zC #[zS ⟨#[100]⟩] 9)):=zR;have ha8:=z0t ha7 (zC #[zS ⟨#[99]⟩] 9);have hP3:=hP1.alloc (zC #[zS ⟨#[99]⟩] 9);rw[Zl] at hP2;have HM:=hd_ (zeq (n:=1) (cs:=[zL (some ⟨W6.heap.size,0,none⟩) 1 1,.bool true,zL (some ⟨W6.heap.size+1,0,none⟩) 1 1,.bool true,zL none 0 0]) (es:=([⟨(⟨[ze9 100],true⟩,some ⟨W6.heap.size,0,none⟩,1),(⟨[ze9 99],true⟩,some ⟨W6.heap.size+1,0,none⟩,1),zL none 0 0,[]⟩]:List zdk)) ha8 rfl rfl (by show 1<=1000;omega) (by
  intro x hx;simp only[Zn,ZO,or_false] at hx
  subst hx;exact⟨zeo (l:=[ze9 100]) hP3 rfl (by decide) (by decide),zeo (l:=[ze9 99]) hP2 rfl (by decide) (by decide),zep _,Zg _⟩))
 have hes:([⟨(⟨[ze9 100],true⟩,some ⟨W6.heap.size,0,none⟩,1),(⟨[ze9 99],true⟩,some ⟨W6.heap.size+1,0,none⟩,1),zL none 0 0,[]⟩]:List zdk).map zdk.pl=zeb 0:=rfl;generalize ([⟨(⟨[ze9 100],true⟩,some ⟨W6.heap.size,0,none⟩,1),(⟨[ze9 99],true⟩,some ⟨W6.heap.size+1,0,none⟩,1),zL none 0 0,[]⟩]:List zdk)=es at HM hes;have HES:=hd_ hes;simp only[Zl] at HM
 clear hP1 hP2 hP3 ha7 ha8 hes;have HB9:=hd_ (z0r HB6 HM.2);have HR9:=hd_ (HR6.kw HM.2);have HX9:=hd_ (HX6.kw HM.2 HX6.lt);have HM9:=hd_ HM.1;clear HM HB6 HR6 HX6;(try simp only[Zl])
 generalize ((W6.alloc (zC #[zS ⟨#[100]⟩] 9)).alloc (zC #[zS ⟨#[99]⟩] 9)).alloc (zC #[zL (some ⟨W6.heap.size,0,none⟩) 1 1,.bool true,zL (some ⟨W6.heap.size+1,0,none⟩) 1 1,.bool true,zL none 0 0] 59)=W9 at HB9 HR9 HX9 HM9 |-;generalize W6.heap.size+1+1=g9 at HM9 |-;go_upto_region 7 with fail;have hH:=z0i W9 [zS ⟨#[47,47,100,47,97]⟩,zI 1,zS ⟨#[47,47,99,47,98]⟩,zS ⟨#[47,47,100,47,98]⟩,zI 1,zS ⟨#[47,47,99,47,97]⟩] 84 3 2 rfl (by decide) _ rfl
 have ha10:zB W9 (W9.alloc (zC #[zS ⟨#[47,47,100,47,97]⟩,zI 1,zS ⟨#[47,47,99,47,98]⟩,zS ⟨#[47,47,100,47,98]⟩,zI 1,zS ⟨#[47,47,99,47,97]⟩] 84)):=zR;have HB10:=hd_ (z0r HB9 ha10);have HR10:=hd_ (HR9.kw ha10);have HX10:=hd_ (HX9.kw ha10 HX9.lt);have HM10:=hd_ (HM9.kw ha10);have HH10:Hid (z5s _ _ knH):=hd_ hH;clear hH ha10 HB9 HR9 HX9 HM9;generalize W9.alloc (zC #[zS ⟨#[47,47,100,47,97]⟩,zI 1,zS ⟨#[47,47,99,47,98]⟩,zS ⟨#[47,47,100,47,98]⟩,zI 1,zS ⟨#[47,47,99,47,97]⟩] 84)=W10 at HB10 HR10 HX10 HM10 HH10 |-;generalize W9.heap.size=g10 at HH10 |-;obtain⟨x0,x1,-,-⟩:=box2 HX10.out;have hO:=z0i W10 [zS ⟨#[47,47,100,47,98]⟩] 9 1 1 rfl (by decide) _ rfl
 have ha11:zB W10 (W10.alloc (zC #[zS ⟨#[47,47,100,47,98]⟩] 9)):=zR;have HB11:=hd_ (z0r HB10 ha11);have HPL:=hd_ (zpy (hs:=knH) (op:=[knB]) (dt:=[]) (dr:=zL A2 0 c2) (kn_plOk HES) 1 (HE.kw HB11) (HR10.kw ha11) (HM10.kw ha11) (HH10.kw ha11) kn_hav (by decide) hO (Row.nil_ _ 1) (by decide) (by decide))
 rw[kn_fwd HES.out,kn_plan] at HPL;clear hO ha11 HB10 HR10 HX10 HM10 HH10;go_wp2_with fail;refine HPL.mono ?_;rintro e w12 ⟨pv,rfl,hp,hb⟩;dsimp only;have HB12:=hd_ (z0r HB11 hb);have hS:=z0i w12 [zI 5,zS ⟨#[47,47,100,47,97]⟩,zI 1,zS ⟨#[47,47,99,47,98]⟩,zS ⟨#[47,47,99,47,97]⟩,zI 6,zS ⟨#[47,47,100,47,98]⟩,zI 1,zS ⟨#[47,47,99,47,97]⟩,zS ⟨#[47,47,99,47,98]⟩] 99 5 2 rfl (by decide) _ rfl
 have ha13:zB w12 (w12.alloc (zC #[zI 5,zS ⟨#[47,47,100,47,97]⟩,zI 1,zS ⟨#[47,47,99,47,98]⟩,zS ⟨#[47,47,99,47,97]⟩,zI 6,zS ⟨#[47,47,100,47,98]⟩,zI 1,zS ⟨#[47,47,99,47,97]⟩,zS ⟨#[47,47,99,47,98]⟩] 99)):=zR;have HB13:=hd_ (z0r HB12 ha13);have HSM:=hd_ (zq6 _ _ _ _ (hp.kw ha13) hS);clear hp hb hS ha13 HPL HB11 x0 x1;go_wp2_with fail;refine HSM.mono ?_;rintro e w14 ⟨rfl,hb⟩;have HB14:=hd_ (z0r HB13 hb);clear hb HSM;go_wp2_with fail;go_ret;exact⟨rfl,HB14⟩
open Go.RowKit Go.ChangeShapes Go.WideShapes Go.Deep
section
variable {H : Type} {enc : TypeId × zV -> H} {P : Program} {w : zW} {spare : Nat -> Bool} {held : Bool}
theorem zsz {w:zW}{b:Nat}{x:TypeId×Nat}(h:w.shape? b=some x):b<w.heap.size:=by
 rcases Nat.lt_or_ge b w.heap.size with h1 | h1
 ·exact h1
 ·have:w.heap[b]? = none:=Array.getElem?_eq_none h1;unfold World.shape? at h
  rw[this] at h;cases h
theorem zt0 {t e:TypeId}{r:Reach}{b0:Nat}{v:zV}{d:DataW H}{p:List MemPlace}(ht:P.underlying t=some (.slice e))(he:P.underlying e=some (.int .i64))(hc:P.cellsOf e=1)
  (hv:Value.okWide P w r b0 t v) (h:DataW.Trod enc P w 0 spare held t v d p):
  ∃(l:List Int) (A:zP) (c:Nat),v=zL A l.length c/\Row w 1 (zL A l.length c) l.length (l.map fun(n:Int)=>zI n)/\∀ ad,A=some ad->ad.block<w.heap.size:=by
 obtain⟨a,n,c,rfl⟩:=okWide_slice ht hv;have hlt:∀ ad,a=some ad->ad.block<w.heap.size:=by
  rintro ad rfl;simp only[Value.okWide,ht,Cell.okWide,Cell.ok] at hv
  obtain⟨-,-,-,-,row,cells,hs,-⟩:=hv;exact zsz hs
 obtain⟨fuel,hf⟩:=h;rcases open_ints ht he hc hf with⟨hcs,_⟩ | ⟨x,l,c',zs,hcs,_,hl,hm,hz,_,hcell,hwz⟩
 ·simp [Value.cells] at hcs
  obtain⟨rfl,rfl,rfl⟩:=hcs;exact⟨[],none,0,rfl,Row.nil_ w 1,fun ad e=>by cases e⟩
 ·simp [Value.cells] at hcs
  obtain⟨rfl,rfl,rfl⟩:=hcs;have hzl:n<=zs.length:=by rw[hz];split <;> omega
  have hlen:(zs.take n).length=n:=by simp;omega
  refine⟨zs.take n,some x,c,by rw[hlen],?_,hlt⟩
  rw[hlen];refine⟨_,_,rfl,hl,hm,by simp;omega,fun h=>(by cases h),fun hn=>⟨x,rfl,hlt x rfl,fun j u hu=>?_⟩⟩
  have hj:j<n:=by
   have:=(ZR.1 hu).1;simp at this;omega
  rw[hcell j (by omega),<- hu]
  simp only[ZA,List.getElem?_take,hj,if_true,Ze (show j<zs.length by omega),Option.map_some]
  simp only[List.getD_eq_getElem?_getD,Ze (show j<zs.length by omega),Option.getD_some]
end
theorem env_of {W:zW}(h:W.ShapedOpen prog):Env W:=Tryz.laysM143.s1_3 W h
end Go.Proofs.YtlnjaagijaadmaaGreatDoor
/- Lists of entries as arguments under an Upto bound: their texts are short, they are not long. -/
namespace Go.Proofs.YtlnjaagijaadmaaGreatDoor.upto
open Go.Proofs.Tryz
open Go.RowKit Go.ChangeShapes Go.WideShapes Go.Deep
section
variable {H : Type} {enc : TypeId × zV -> H} {P : Program} {w : zW} {spare : Nat -> Bool} {held : Bool}
theorem rd_bool {t:TypeId}(ht:P.underlying t=some .bool):Rd enc P w spare held t (fun b:Bool=>[.bool b]) (fun _=>True) 1:=fun n cs y h _=>by
 obtain⟨s,e,_⟩:=DataW.trod_bool ht h;exact⟨zt1 _,s,e,trivial⟩
end
theorem zt7:∀ l:List zA,l.flatMap (fun s:zA=>[zS s])=l.map .string
 | []=>rfl
 | x :: l=>by rw[ZG,zt7 l];rfl
def SmP (p:Pat):Prop:=∀ x∈p.kp,x.size<=1048576
section
variable {H : Type} {enc : TypeId × zV -> H}
theorem zt8 (w:zW)(spare:Nat->Bool)(held:Bool):Rd enc prog w spare held 56 PatM.cells (fun q=>z20 w q.v q.1.kp/\SmP q.1) 3:=by
 intro n cs y h hw;obtain⟨hM,hl0,hF⟩:=zt5 underlying56 h hw;have hl:cs.length=2:=hl0.trans (by kernel_rfl)
 obtain⟨n0,y0,h0,wh0⟩:=hF 0 _ 29 0 1 rfl rfl rfl (by kernel_rfl)
 obtain⟨v,l,e0,-,⟨A,c,hv⟩,hrow,hsz⟩:=zt6 (k:=1) (fun _=>rfl) (by decide) underlying29 (by kernel_rfl) (zt4 underlying9) _ _ _ h0 wh0
 obtain⟨n1,y1,h1,wh1⟩:=hF 1 _ 4 1 1 rfl rfl rfl (by kernel_rfl)
 obtain⟨-,a1,e1,-⟩:=rd_bool underlying4 _ _ _ h1 wh1;refine⟨hM,?_⟩;clear h hw hF hM hl0 h0 wh0 h1 wh1;match cs,hl with
 | [u0,u1],_ =>
  have e0':[u0]=_:=e0;have e1':[u1]=_:=e1;clear e0 e1;simp only[List.cons.injEq,and_true] at e0' e1'
  subst e0' e1';subst hv;refine⟨(⟨l,a1⟩,A,c),rfl,?_,hsz⟩;rw[zt7] at hrow;exact hrow
theorem rd_ent (w:zW)(spare:Nat->Bool)(held:Bool):Rd enc prog w spare held 59 zdk.cells (fun x=>zdl w x/\SmP x.l.1/\SmP x.r.1/\∀ q∈x.hs,SmP q.1) 1:=by
 intro n cs y h hw;obtain⟨hM,hl0,hF⟩:=zt5 underlying59 h hw;have hl:cs.length=5:=hl0.trans (by kernel_rfl)
 obtain⟨n0,y0,h0,wh0⟩:=hF 0 _ 56 0 2 rfl rfl rfl (by kernel_rfl)
 obtain⟨-,a0,e0,p0⟩:=zt8 w spare held _ _ _ h0 wh0;obtain⟨n1,y1,h1,wh1⟩:=hF 1 _ 56 2 2 rfl rfl rfl (by kernel_rfl)
 obtain⟨-,a1,e1,p1⟩:=zt8 w spare held _ _ _ h1 wh1;obtain⟨n2,y2,h2,wh2⟩:=hF 2 _ 57 4 1 rfl rfl rfl (by kernel_rfl)
 obtain⟨v,l,e2,hlen,-,hrow,hsz⟩:=zt6 (k:=2) (fun _=>rfl) (by decide) underlying57 (by kernel_rfl) (zt8 w spare held) _ _ _ h2 wh2
 refine⟨zt1 _,?_⟩;clear h hw hF hM hl0 h0 wh0 h1 wh1 h2 wh2;match cs,hl with
 | [u0,u1,u2,u3,u4],_ =>
  have e0':[u0,u1]=_:=e0;have e1':[u2,u3]=_:=e1;have e2':[u4]=_:=e2;clear e0 e1 e2;unfold PatM.cells at e0' e1';simp only[List.cons.injEq,and_true] at e0' e1' e2'
  obtain⟨rfl,rfl⟩:=e0';obtain⟨rfl,rfl⟩:=e1';subst e2';refine⟨⟨a0,a1,u4,l⟩,rfl,⟨⟨p0.1,fun x hx=>Zf (p0.2 x hx) (by decide)⟩,⟨p1.1,fun x hx=>Zf (p1.2 x hx) (by decide)⟩,⟨hrow,fun q hq=>⟨(hsz q hq).1,fun x hx=>Zf ((hsz q hq).2 x hx) (by decide)⟩⟩,by show l.length<=1000000;omega⟩,p0.2,p1.2,fun q hq=>(hsz q hq).2⟩
theorem ents_arg {w:zW}{r:Reach}{b0:Nat}{spare:Nat->Bool}{held:Bool}{v:zV}{d:DataW H}{p:List MemPlace}(hv:Value.okWide prog w r b0 23 v)(h:DataW.Trod enc prog w 0 spare held 23 v d p)(hw:Rows.uptoBulk d<=1048576):
  ∃(l:List zdk) (A:zP) (c:Nat),v=zL A l.length c/\zdo w (zL A l.length c) l/\∀ x∈l,SmP x.l.1/\SmP x.r.1/\∀ q∈x.hs,SmP q.1:=by
 obtain⟨a,n,c,rfl⟩:=okWide_slice underlying23 hv;obtain⟨m,hm⟩:=h;obtain⟨v',l,e,h1,⟨A,c',h2⟩,h3,h4⟩:=zt6 (k:=5) (fun _=>rfl) (by decide) underlying23 (by kernel_rfl) (rd_ent w spare held) _ _ _ hm hw
 simp only[Value.cells,List.cons.injEq,and_true] at e
 subst h2;injection e with e1 e2 e3
 subst e1 e2 e3;exact⟨l,_,_,rfl,⟨h3,fun x hx=>(h4 x hx).1⟩,fun x hx=>(h4 x hx).2⟩
end
end Go.Proofs.YtlnjaagijaadmaaGreatDoor.upto
