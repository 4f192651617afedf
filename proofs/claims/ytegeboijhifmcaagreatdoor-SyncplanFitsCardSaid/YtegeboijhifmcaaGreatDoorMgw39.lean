/- syncplan.Check at any have-list and any plan; what result's entries are made of; syncplan.Result. -/
import Derived.Test.YtegeboijhifmcaaGreatDoorMgw23
import Derived.Test.YtegeboijhifmcaaGreatDoorMgw36
import Derived.Test.YtegeboijhifmcaaGreatDoorMgw35
import Derived.Test.YtegeboijhifmcaaGreatDoorMgw29
import Derived.Test.YtegeboijhifmcaaGreatDoorMgw34
import Derived.Test.YtegeboijhifmcaaGreatDoorMgw33
import Derived.Test.YtegeboijhifmcaaGreatDoorMgw30
import Derived.Test.YtegeboijhifmcaaGreatDoorMgw13
import Derived.Test.YtegeboijhifmcaaGreatDoorMgw38
import Derived.Test.YtegeboijhifmcaaGreatDoorMgw27
import Derived.Test.YtegeboijhifmcaaGreatDoorMgw7
import Derived.ProofKit
import Derived.OpenShut
import Derived.ShutString
import Derived.ChangeOld
import Derived.Deep.Slices
import Derived.Deep.Fields
import Derived.ChangeSlices
namespace Go.Proofs.YtegeboijhifmcaaGreatDoor
set_option linter.unusedVariables false
set_option linter.unusedSimpArgs false
set_option maxHeartbeats 8000000
set_option maxRecDepth 100000
open Go.RowKit
open Go.Sort (grow)
theorem zjm {x:Syn}{y:Hav}(h:y∈z4s x):y.path=x.path∧y.loc=x.dst:=by
 unfold z4s at h;split at h
 ·cases h
 ·rw[List.mem_singleton] at h;subst h;exact⟨rfl,rfl⟩
theorem zjn {x:Syn}{y:Hav}(h:y∈z4t x):y.path=x.path∧y.loc=x.dst:=by
 unfold z4t at h;split at h
 ·cases h
 ·exact zjm h
theorem zjo {p:ByteArray}{l:List Syn}{x:Syn}(h:x∈z4v p l):x∈l:=by
 induction l with
 | nil=>exact h
 | cons z r ih =>
  rw[z4v] at h;split at h
  ·exact List.mem_cons_of_mem _ (ih h)
  ·exact h
theorem zjp {e:Hav}{l:List Syn}{x:Syn}(h:x∈z4x e l):x∈l:=by
 cases l with
 | nil=>exact h
 | cons z r =>
  rw[z4x] at h;split at h
  ·exact List.mem_cons_of_mem _ h
  ·exact h
theorem zjq {p:ByteArray}{l:List Syn}{y:Hav}(h:y∈z4u p l):∃ x∈l,y.path=x.path∧y.loc=x.dst:=by
 induction l with
 | nil=>cases h
 | cons z r ih =>
  rw[z4u] at h;split at h
  ·rcases List.mem_append.1 h with h | h
   ·exact⟨z,List.mem_cons_self,zjn h⟩
   ·obtain⟨x,hx,e⟩:=ih h;exact⟨x,List.mem_cons_of_mem _ hx,e⟩
  ·cases h
theorem zjr {e:Hav}{l:List Syn}{y:Hav}(h:y∈z4w e l):y=e∨∃ x∈l,y.path=x.path∧y.loc=x.dst:=by
 cases l with
 | nil=>rw[z4w,List.mem_singleton] at h;exact .inl h
 | cons z r =>
  rw[z4w] at h;split at h
  ·split at h
   ·rw[List.mem_singleton] at h;exact .inl h
   ·exact .inr ⟨z,List.mem_cons_self,zjm h⟩
  ·rw[List.mem_singleton] at h;exact .inl h
theorem zjs:∀ {hs:List Hav} {ps:List Syn} {y:Hav},y∈z4y hs ps→y∈hs∨∃ x∈ps,y.path=x.path∧y.loc=x.dst
 | [],ps,y,h=>by
  rw[z4y] at h;obtain⟨x,hx,e⟩:=List.mem_flatMap.1 h;exact .inr ⟨x,hx,zjn e⟩
 | e :: hs,ps,y,h=>by
  rw[z4y] at h;rcases List.mem_append.1 h with h | h
  ·rcases List.mem_append.1 h with h | h
   ·exact .inr (zjq h)
   ·rcases zjr h with rfl | ⟨x,hx,e⟩
    ·exact .inl List.mem_cons_self
    ·exact .inr ⟨x,zjo hx,e⟩
  ·rcases zjs h with h | ⟨x,hx,e⟩
   ·exact .inl (List.mem_cons_of_mem _ h)
   ·exact .inr ⟨x,zjo (zjp hx),e⟩
theorem zjt (hs:List Hav)(ss:List Syn)(hv pv:Value)(w:World)(hH:z4b w hv hs)(hS:z4z w pv ss)
  (hz:∀ x∈hs,x.path.size≤1000000∧x.loc.size≤1000000) (hz2:∀ x∈ss,x.path.size≤1000000∧x.dst.size≤1000000) (hl:hs.length+2 * ss.length+1≤1000000):
  Calls Tryz.prog 19 #[hv,pv] w fun e w'=>e=.returned (.int .i64 (zj1 hs ss))∧Below w.heap.size w w':=
 zj6 hs ss hv pv w hH hS hz hz2 (fun y hy=>by
   rcases zjs hy with h | ⟨x,hx,e1,e2⟩
   ·exact hz y h
   ·rw[e1,e2];exact hz2 x hx) (by omega)
  (fun X hX=>zjl hs ss hv pv X (hH.below hX) (hS.below hX) (fun x hx=>(hz x hx).1) (fun x hx=>(hz2 x hx).1) hl)
theorem zju (hs:List Hav)(ss:List Syn)(hv pv:Value)(w:World)(hH:z4b w hv hs)(hS:z4z w pv ss)
  (hz:∀ x∈hs,x.path.size≤1000000∧x.loc.size≤1000000) (hz2:∀ x∈ss,x.path.size≤1000000∧x.dst.size≤1000000) (hl:hs.length+2 * ss.length+1≤1000000):
  Calls Tryz.prog 17 #[hv,pv] w fun e w'=>∃ v,e=.returned (.tuple #[v,.int .i64 (zj1 hs ss)])∧z4b w' v (if zj1 hs ss=0 then z4y hs ss else [])∧Below w.heap.size w w':=by
 have HC:=hd_ (zjt hs ss hv pv w hH hS hz hz2 hl);have HR:=hd_ (fun X (hX:Below w.heap.size w X)=>zjl hs ss hv pv X (hH.below hX) (hS.below hX) (fun x hx=>(hz x hx).1) (fun x hx=>(hz2 x hx).1) hl);obtain⟨Ah,ch,rfl,-⟩:=id hH;obtain⟨A1,c1,rfl,-⟩:=id hS;clear hH hS hz hz2 hl;generalize zj1 hs ss=ce at HC ⊢;by_cases he:ce=0
 ·subst he;rw[if_pos rfl];go_enter Tryz.func17,Tryz.ntmps17;go_wp2_with fail;refine HC.out.mono ?_;rintro e w1 ⟨rfl,hb1⟩;have HR1:=hd_ (HR.out w1 hb1);have HB1:=hd_ hb1;clear hb1;go_wp2_with fail;refine HR1.out.mono ?_;rintro e w2 ⟨v,rfl,hv,hb2⟩;have HV:=hd_ hv;have HB2:=hd_ (z0r HB1.out hb2);clear hv hb2;go_wp2_with fail;go_ret2;exact⟨_,rfl,HV.out,HB2.out⟩
 ·rw[if_neg he];have n0:(ce == 0)=false:=beq_eq_false_iff_ne.2 he;have n1:(ce != 0)=true:=by rw[bne,n0];rfl
  clear he;go_enter Tryz.func17,Tryz.ntmps17;go_wp2_with fail;refine HC.out.mono ?_;rintro e w1 ⟨rfl,hb1⟩;have HB1:=hd_ hb1;clear hb1;go_wp2_with fail;go_ret2;exact⟨_,rfl,Row.nil_ _ _,HB1.out⟩
theorem zld (D:List Rev)(es:List zd8)(m:Int)(hs:List Hav)(op dt:List ByteArray)(dv dr mv hv ov tv:Value)(w:World)(he:Env w)(hR:z45 w dv D)(hE:zdi w mv es)(hl:D.length≤1000000)(h6:∀ r∈D,r.path∈zff)(hS:zfs es)(hnum:∀ r∈D,1≤r.num)(hf:zfi (zdt es))
  (hH:z4b w hv hs) (hOk:zf0 hs) (hhl:hs.length≤100) (hop:Strs w ov op) (hdt:Strs w tv dt) (hopl:op.length≤1000) (hdtl:dt.length≤1000):
  Calls Tryz.prog 12 #[.agg #[dv,dr],mv,.int .i64 m,hv,ov,tv] w (zl9 w (zf9 hs (zfk D (zdt es) m) op dt)):=by
 obtain⟨Ah,ch,rfl,-⟩:=id hH;obtain⟨Ao,co,rfl,-⟩:=id hop;obtain⟨At,ct,rfl,-⟩:=id hdt;obtain⟨Ad,cd,rfl,-⟩:=id hR;have hwok:=zfn (m:=m) hnum hf;have hwl:(zfk D (zdt es) m).length≤6:=zfp;have HWN:=hd_ (fun X (hX:Below w.heap.size w X)=>zg0 D es m (.slice Ad D.length cd) dr mv X (he.below hX) (hR.below hX) (hE.below hX) hl h6 hS);generalize zfk D (zdt es) m=ws at *;have hhe:z4g hs=0:=zf5.2 ⟨hOk,by omega⟩
 have HHC:Hid (∀ X,Below w.heap.size w X→Calls Tryz.prog 20 #[.slice Ah hs.length ch] X fun e w'=>e=.returned (.int .i64 0)∧Below X.heap.size X w'):=hd_ fun X hX=>by
  have:=z4o hs (.slice Ah hs.length ch) X (Row.below hH hX) (fun x hx=>by have:=zlc hOk x hx;omega)
  rw[hhe] at this;exact this
 have HH:=hd_ hH;have HOP:=hd_ hop;have HDT:=hd_ hdt;have HOK:=hd_ hOk;have HWOK:=hd_ hwok;obtain⟨d0,d1⟩:=(⟨(z0l w [.slice Ad D.length cd,dr] 26).cell 0,(z0l w [.slice Ad D.length cd,dr] 26).cell 1⟩:(w.alloc (.cells #[.slice Ad D.length cd,dr] 26)).cell? ⟨w.heap.size,0,none⟩=some (.slice Ad D.length cd)∧(w.alloc (.cells #[.slice Ad D.length cd,dr] 26)).cell? ⟨w.heap.size,1,none⟩=some dr);have hA:Below w.heap.size w (w.alloc (.cells #[.slice Ad D.length cd,dr] 26)):=(Below.refl _ _).alloc (Nat.le_refl _) _;have HA:=hd_ hA;clear he hR hE hl h6 hS hnum hf hH hOk hop hdt hwok hhe hA;go_enter Tryz.func12,Tryz.ntmps12;go_wp2_with fail;refine (HWN.out _ HA.out).mono ?_;rintro e w1 ⟨wv,rfl,hwv,hb1⟩;dsimp only;have HB1:=hd_ (z0r HA.out hb1);obtain⟨Aw,cw,rfl,-⟩:=id hwv;have HWV:=hd_ hwv;clear hb1 hwv d0 d1 HWN;go_wp2_with fail;refine (HHC.out _ HB1.out).mono ?_;rintro e w2 ⟨rfl,hb2⟩;dsimp only;have HB2:=hd_ (z0r HB1.out hb2);have HDF:=hd_ (ziw hs ws (.slice Ah hs.length ch) (.slice Aw ws.length cw) w2 (Row.below HH.out HB2.out) (Row.below HWV.out hb2) (fun x hx=>by have:=zlc HOK.out x hx;omega) (fun x hx=>by have:=zlc HWOK.out x hx;omega) (by omega))
 clear hb2 HHC;go_wp2_with fail;refine HDF.out.mono ?_;rintro e w3 ⟨pv,rfl,ho3,hb3⟩;dsimp only;have hps:(z6h (hs.length+ws.length) hs ws).map (zf7 op dt)=zf8 hs ws op dt:=rfl;have hpl:=zla (hs.length+ws.length) hs ws;generalize z6h (hs.length+ws.length) hs ws=ps at ho3 hps hpl;obtain⟨Ap,cp,rfl⟩:=z0o ho3;have HAP:Hid ((Ap=none∧ps.length=0)∨∃ g,w2.heap.size≤g∧g<w3.heap.size∧Ap=some ⟨g,0,none⟩):=hd_ (by
  rcases ho3.2 with⟨e1,e2⟩ | ⟨g,cap,cur,e1,e2,e3,-⟩
  ·injection e1 with e1
   exact .inl ⟨e1,e2⟩
  ·injection e1 with e1
   exact .inr ⟨g,e2,(Array.getElem?_eq_some_iff.1 e3).1,e1⟩)
 have HB3:=hd_ (z0r HB2.out hb3);have HO3:=hd_ ho3;have HPS:=hd_ hps;have HBX:=hd_ hb3;have HS1:=hd_ (zjz op (.slice Ao op.length co) w3 (HOP.out.below HB3.out) (by omega))
 clear ho3 hb3 hps HDF;go_upto_region 7 with fail;rename ∀ a w,Code.wp _ (Code.seq (Code.seq (Code.region 8 _ _) _) _) _ a w→_=>hk7
 have HK7:=hd_ hk7;clear hk7;go_wp2_with fail;refine HS1.out.mono ?_;rintro e w4 ⟨rfl,hs4,hb4⟩;dsimp only;have HB4:=hd_ (z0r HB3.out hb4);have HS4:=hd_ hs4;have HBX4:=hd_ hb4;have HS2:=hd_ (zjz dt (.slice At dt.length ct) w4 (HDT.out.below HB4.out) (by omega))
 clear hs4 hb4 HS1;go_wp2_with fail;refine HS2.out.mono ?_;rintro e w5 ⟨rfl,hs5,hb5⟩;dsimp only;go_wp2_with fail;have hB:w.heap.size≤w2.heap.size:=HB2.out.size;have hl3:w3.heap.size<w4.heap.size:=HS4.out.lt;have hl4:w4.heap.size<w5.heap.size:=hs5.lt;have hl23:w2.heap.size≤w3.heap.size:=HBX.out.size;have hB5:Below w.heap.size w w5:=z0r HB4.out hb5;have hO5:zjv w5 w2.heap.size (.slice Ap ps.length cp) ps:=z0n (z0n HO3.out HBX4.out) hb5;obtain⟨g8,h81,h82,h83,h84⟩:∃ g,w3.heap.size≠g∧w4.heap.size≠g∧w2.heap.size≤g∧(0<ps.length→Ap=some ⟨g,0,none⟩):=by
  rcases HAP.out with⟨-,e⟩ | ⟨g,e1,e2,e3⟩
  ·exact⟨w5.heap.size,by omega,by omega,by omega,fun h=>by omega⟩
  ·exact⟨g,by omega,by omega,e1,fun _=>e3⟩
 obtain⟨gB,hb1,hb2,hb3⟩:∃ g,w2.heap.size≤g∧g<w5.heap.size∧(0<ps.length→Ap=some ⟨g,0,none⟩):=by
  rcases HAP.out with⟨-,e⟩ | ⟨g,e1,e2,e3⟩
  ·exact⟨w2.heap.size,Nat.le_refl _,by omega,fun h=>by omega⟩
  ·exact⟨g,e1,by omega,fun _=>e3⟩
 have hH2:∀ X,Below w2.heap.size w5 X→Below w.heap.size w X:=fun X hX=>hB5.trans (hX.mono hB);have hpz:∀ x∈zeg (blB hs (ps.map (zf7 op dt))) (ps.map (zf7 op dt)),x.path.size≤1000000:=fun x hx=>by
  obtain⟨y,hy,rfl⟩:=List.mem_map.1 hx;rw[zeh];rw[HPS.out] at hy;obtain⟨z,hz,rfl⟩:=List.mem_map.1 hy;rcases z6j _ _ _ z hz with⟨h,h1,h2⟩ | ⟨h,h1,h2⟩
  ·have:=(zlc HOK.out h h1).1;show z.path.size≤_
   rw[← h2];omega
  ·have:=(zlc HWOK.out h h1).1;show z.path.size≤_
   rw[← h2];omega
 have hsp:=(zfc (op:=op) (dt:=dt) HOK.out HWOK.out).1;have hfr:=zlb (op:=op) (dt:=dt) HOK.out HWOK.out;rw[← HPS.out] at hsp hfr;have hlm:(ps.map (zf7 op dt)).length=ps.length:=List.length_map _;refine HK7.out _ _ (plT8 _ (by kernel_rfl) _ w5 w2.heap.size w3.heap.size w4.heap.size g8 cp Ap ps op dt h84 ⟨by rw[List.take_zero,List.drop_zero];exact hO5,z2f.below HS4.out hb5,hs5,Below.refl _ _⟩ h81 h82 h83 (by omega) (by omega) hs (z4y hs (zeg (blB hs (ps.map (zf7 op dt))) (ps.map (zf7 op dt)))) Ah ch (zeg (blB hs (ps.map (zf7 op dt))) (ps.map (zf7 op dt))) (fun X hX hO=>?_) (fun X hX hO=>?_) (fun h X hX=>?_) (fun h X hX hO=>?_) _ _ _ _ _ _ _ _ _ _ _ _ _ _ _ _ _ _ _ _ _ _ _ _ _ _ _ _ _ _ _ _ _ _ _ _ _ _ _ _ _ _ _ _ _ _ _ _ _ _ _ _ _ _ _ _ _ _ _ _ _ _ _ _ _ _ _ _ _ _ _ _ _ _ _ _ _ _ _ _ _ _ _ _ _ _ _ _ _ _ _ _ _)
 ·have hbk:=zl8 hs (ps.map (zf7 op dt)) Ah Ap ch gB cp w2.heap.size X (fun h=>hb3 (by rw[hlm] at h;exact h)) (Row.below HH.out (hH2 X hX)) (by rw[hlm];exact hO) HOK.out hsp hfr hb1 (by have:=hX.size;omega) (by rw[hlm];omega) (by omega)
  rw[hlm] at hbk;exact hbk
 ·have hS:z4z X (.slice Ap ps.length cp) (zeg (blB hs (ps.map (zf7 op dt))) (ps.map (zf7 op dt))):=Row.of_own hO;exact zjl hs _ _ _ X (Row.below HH.out (hH2 X hX)) hS (fun x hx=>by have:=(zlc HOK.out x hx).1;omega) hpz (by rw[zl2,hlm];omega)
 ·have:=zjj hs (zeg (blB hs (ps.map (zf7 op dt))) (ps.map (zf7 op dt)));rw[zl2,hlm] at this;omega
 ·refine⟨_,rfl,?_,hH2 X hX⟩;unfold zf9;rw[← HPS.out];exact Row.of_own hO
theorem zmy (p:ByteArray):∀(l:List Hav) (f:ByteArray→Option ByteArray),z6b l→(l.foldl (fun f h=>upd f h.path h.loc) f) p=((z6d l p).map Hav.loc).or (f p)
 | [],f,_=>rfl
 | a :: l,f,h=>by
  rw[List.foldl_cons,zmy p l _ h.tail];show _=((z5y Hav.path (a :: l) p).map Hav.loc).or (f p)
  rw[z63];by_cases e:a.path=p
  ·rw[if_pos e];have:z6d l p=none:=z62.2 fun b hb eb=>z5z (h.head b hb) (e.trans eb.symm);rw[this];unfold upd;rw[if_pos e.symm];rfl
  ·rw[if_neg e];unfold upd;rw[if_neg (fun e2=>e e2.symm)]
theorem locs_of {hs:List Hav}(h:zf0 hs)(p:ByteArray):(ziz hs p).getD z2l=zk4 hs p:=by
 unfold ziz zk4;rw[zmy p hs _ h.srt];cases (z6d hs p).map Hav.loc <;> rfl
theorem zmz {F:ByteArray→Option ByteArray}:∀(q:Option Syn) (l:List Syn),z6c l→(∀ y,q=some y→∀ x∈l,z2u y.path x.path<0)→(∀ x∈l,zik x ((F x.path).getD z2l)=true)→ziy F q l=false
 | _,[],_,_,_=>rfl
 | q,x :: l,h,hq,hf=>by
  have hp:zix q x=false:=by
   cases q with
   | none=>rfl
   | some y =>
    have:=hq y rfl x (List.mem_cons_self ..);exact decide_eq_false (by omega)
  rw[ziy,hf x (List.mem_cons_self ..),hp];exact zmz (some x) l h.tail (fun y e z hz=>by cases e;exact h.head z hz) fun z hz=>hf z (List.mem_cons_of_mem _ hz)
section
variable {hs ws : List Hav} {op dt : List ByteArray}
theorem zn0:(zf9 hs ws op dt).length≤hs.length+ws.length:=by
 unfold zf9 zf8;rw[zl2,List.length_map];exact zla _ _ _
theorem plan_E (h1:zf0 hs)(h2:zf0 ws)(hl:hs.length≤100)(wl:ws.length≤100):zj1 hs (zf9 hs ws op dt)=0:=by
 have e1:z4g hs=0:=zf5.2 ⟨h1,by omega⟩
 have e2:z4g (z4y hs (zf9 hs ws op dt))=0:=zf5.2 ⟨res_ok h1 h2,by
  have a:=zjj hs (zf9 hs ws op dt);have b:=zn0 (hs:=hs) (ws:=ws) (op:=op) (dt:=dt);omega⟩
 have e3:ziy (ziz hs) none (zf9 hs ws op dt)=false:=zmz none _ (zfd h1 h2).1 (fun y e=>by cases e) fun x hx=>by
  rw[locs_of h1];exact zka h1 h2 hx
 rw[zj2 e1,e2,e3];rfl
theorem zn1 (h1:zf0 hs)(h2:zf0 ws){x:Syn}(hx:x∈zf9 hs ws op dt):x.path.size≤200∧x.frm.size≤200∧x.dst.size≤200:=by
 have h:=zka h1 h2 hx;unfold zik at h;simp only[Bool.and_eq_true] at h
 obtain⟨⟨⟨⟨a1,a2⟩,a3⟩,a4⟩,a5⟩:=h;refine⟨(zf2 a1).2.1,?_,?_⟩
 ·have e:x.frm=zk4 hs x.path:=of_decide_eq_true a2;rw[e];unfold zk4;cases hg:z6d hs x.path with
  | none=>decide
  | some a=>exact (zlc h1 a (zk5 hg).1).2
 ·split at a4
  ·rename_i c;rw[c];decide
  ·simp only[Bool.and_eq_true] at a4;exact (zf2 a4.2).2.1
end
structure PlOk (D:List Rev)(es:List zd8):Prop where
 len:D.length≤1000
 six:∀ r∈D,r.path∈zff
 num:∀ r∈D,1≤r.num
 shw:zfs es
 fwd:zfi (zdt es)
theorem plOk_of {D:List Rev}{n k:Nat}{es:List zd8}(hD:zmr D n)(hn:n≤1000)(hk:k<8)(he:es.map zd8.pl=zg3 k):PlOk D es:=
 ⟨Nat.le_trans hD.len hn,hD.six,zmt hD,(zgb hk he).1,(zfr k).of_congr (zgb hk he).2⟩
def PrPost (w:World)(l:List Hav)(e:Ending)(w':World):Prop:=∃ v,e=.returned (.tuple #[v,.int .i64 0])∧z4b w' v l∧Below w.heap.size w w'
section
variable {D : List Rev} {es : List zd8} {hs : List Hav} {op dt : List ByteArray} {dv dr mv hv ov tv : Value} {w : World}
theorem PlOk.wok (h:PlOk D es)(m:Int):zf0 (zfk D (zdt es) m):=zfn h.num h.fwd
theorem zn2 (h:PlOk D es)(m:Int)(he:Env w)(hR:z45 w dv D)(hE:zdi w mv es):Calls Tryz.prog 13 #[.agg #[dv,dr],mv,.int .i64 m] w (zfz w (zfk D (zdt es) m)):=
 zg0 D es m dv dr mv w he hR hE (by have:=h.len;omega) h.six h.shw
theorem zn3 (h:PlOk D es)(m:Int)(he:Env w)(hR:z45 w dv D)(hE:zdi w mv es)(hH:z4b w hv hs)(hOk:zf0 hs)(hl:hs.length≤100)(hop:Strs w ov op)(hdt:Strs w tv dt)(opl:op.length≤1000)(dtl:dt.length≤1000):
  Calls Tryz.prog 12 #[.agg #[dv,dr],mv,.int .i64 m,hv,ov,tv] w (zl9 w (zf9 hs (zfk D (zdt es) m) op dt)):=
 zld D es m hs op dt dv dr mv hv ov tv w he hR hE (by have:=h.len;omega) h.six h.shw h.num h.fwd hH hOk hl hop hdt opl dtl
theorem zn4 {ws:List Hav}{pv:Value}(h1:zf0 hs)(h2:zf0 ws)(hl:hs.length≤100)(wl:ws.length≤100)(hH:z4b w hv hs)(hS:z4z w pv (zf9 hs ws op dt)):
  Calls Tryz.prog 17 #[hv,pv] w (PrPost w (z4y hs (zf9 hs ws op dt))):=by
 have e:=plan_E (op:=op) (dt:=dt) h1 h2 hl wl;have b:=zn0 (hs:=hs) (ws:=ws) (op:=op) (dt:=dt);refine (zju hs _ hv pv w hH hS (fun x hx=>by have:=zlc h1 x hx;omega) (fun x hx=>by have:=zn1 h1 h2 hx;omega) (by omega)).mono fun e' w' ⟨v,e1,e2,e3⟩=>?_
 rw[e] at e1;rw[e,if_pos rfl] at e2;exact⟨v,e1,e2,e3⟩
theorem zn5 {ws:List Hav}{pv:Value}(h1:zf0 hs)(h2:zf0 ws)(hl:hs.length≤100)(wl:ws.length≤100)(hH:z4b w hv hs)(hS:z4z w pv (zf9 hs ws op dt)):
  Calls Tryz.prog 19 #[hv,pv] w fun e w'=>e=.returned (.int .i64 0)∧Below w.heap.size w w':=by
 have e:=plan_E (op:=op) (dt:=dt) h1 h2 hl wl;have b:=zn0 (hs:=hs) (ws:=ws) (op:=op) (dt:=dt);refine (zjt hs _ hv pv w hH hS (fun x hx=>by have:=zlc h1 x hx;omega) (fun x hx=>by have:=zn1 h1 h2 hx;omega) (by omega)).mono fun e' w' ⟨e1,e3⟩=>?_
 rw[e] at e1;exact⟨e1,e3⟩
theorem zn6 {l:List Hav}{v:Value}(h:zf0 l)(hl:l.length≤1000)(hL:z4b w v l):Calls Tryz.prog 20 #[v] w fun e w'=>e=.returned (.int .i64 0)∧Below w.heap.size w w':=by
 have e:z4g l=0:=zf5.2 ⟨h,by omega⟩
 have:=z4o l v w hL (fun x hx=>by have:=zlc h x hx;omega)
 rw[e] at this;exact this
end
def zn7:ByteArray:=⟨#[47,47,99,47,97]⟩
def zn8:ByteArray:=⟨#[47,47,99,47,98]⟩
def knRv (p:ByteArray):Rev:=⟨p,1,1,1,⟨1,false,false,false⟩,1,1,z2l,0⟩
def knD:List Rev:=[knRv knA,knRv knB]
def knH:List Hav:=[⟨knA,1,zn8⟩,⟨knB,1,zn7⟩]
def knWs:List Hav:=[⟨knA,1,zn7⟩,⟨knB,1,zn8⟩]
def knX:Syn:=⟨3,knA,1,zn8,zn7⟩
def knY:Syn:=⟨6,knB,1,zn7,zn8⟩
theorem zn9:zfk knD (zfq 0) 1=knWs:=by kernel_rfl
theorem kn_hav:zf0 knH:=by
 refine⟨?_,by decide +kernel,by decide +kernel⟩
 unfold z6b z5x knH;simp only[List.pairwise_cons,List.mem_singleton,forall_eq,List.not_mem_nil,false_implies,implies_true,List.Pairwise.nil,and_true]
 decide +kernel
theorem zna:zf8 knH knWs [knB] []=[knX,knY]:=by
 have c1:¬ z2u knA knA<0:=by decide +kernel
 have c2:¬ 0<z2u knA knA:=by decide +kernel
 have d1:¬ z2u knB knB<0:=by decide +kernel
 have d2:¬ 0<z2u knB knB:=by decide +kernel
 have e1:¬(⟨knA,1,zn8⟩:Hav)=⟨knA,1,zn7⟩:=fun h=>by injection h with _ _ h;exact absurd h (by decide)
 have e2:¬(⟨knB,1,zn7⟩:Hav)=⟨knB,1,zn8⟩:=fun h=>by injection h with _ _ h;exact absurd h (by decide)
 have h:z6h 4 knH knWs=[⟨0,knA,1,zn8,zn7⟩,⟨0,knB,1,zn7,zn8⟩]:=by
  unfold knH knWs;simp only[z6h,if_neg c1,if_neg c2,if_neg d1,if_neg d2,if_neg e1,if_neg e2]
  rfl
 show (z6h 4 knH knWs).map (zf7 [knB] [])=_
 rw[h];kernel_rfl
theorem kn_blA:blB knH [knX,knY] knA=true:=zee.2 (Bl.stay (x:=knX) (y:=knY) (h:=⟨knB,1,zn7⟩) (List.mem_cons_self ..) rfl (by decide) (List.mem_cons_of_mem _ (List.mem_cons_self ..)) rfl (by decide) (by kernel_rfl) rfl)
theorem kn_blB:blB knH [knX,knY] knB=false:=by
 have key:∀ p,Bl knH [knX,knY] p→p=knA:=by
  intro p h;have go:∀ x:Syn,x∈[knX,knY]→z3o x.kind=false→x.path=knA:=fun x hx hk=>by
   simp only[List.mem_cons,List.not_mem_nil,or_false] at hx
   rcases hx with rfl | rfl
   ·rfl
   ·exact absurd hk (by decide)
  cases h with
  | free hx hk=>exact go _ hx hk
  | stay hx hk=>exact go _ hx hk
  | next hx hk=>exact go _ hx hk
 cases hb:blB knH [knX,knY] knB with
 | false=>rfl
 | true=>exact absurd (key knB (zee.1 hb)) (by decide)
theorem kn_plan:zf9 knH (zfk knD (zfq 0) 1) [knB] []=[⟨5,knA,1,zn8,zn7⟩,knY]:=by
 rw[zn9];unfold zf9;rw[zna];show [zef _ knX,zef _ knY]=_
 unfold zef;rw[show blB knH [knX,knY] knX.path=true from kn_blA,show blB knH [knX,knY] knY.path=false from kn_blB];rfl
theorem kn_plOk {es:List zd8}(he:es.map zd8.pl=zg3 0):PlOk knD es:=
 ⟨by decide,by decide +kernel,by decide +kernel,(zgb (by decide) he).1,(zfr 0).of_congr (zgb (by decide) he).2⟩
theorem kn_fwd {es:List zd8}(he:es.map zd8.pl=zg3 0):zfk knD (zdt es) 1=zfk knD (zfq 0) 1:=zgc (zgb (by decide) he).2
structure KnS (w X:World)(g bl be bn gs:Nat)(Ae:Option Addr)(ce:Nat):Prop where
 bel:Below w.heap.size w X
 chk:Chk X g (.slice none 0 0) (.slice none 0 0) 1 ⟨#[]⟩ ⟨#[]⟩ (.slice Ae 2 ce) (.slice none 0 0) bl be bn
 last:z7r X bl zgn
 ne:bl≠be
 eds:KnE X Ae ce
 boxD:Blk X w.heap.size 26 [.slice none 0 0,.slice none 0 0]
 boxC:Blk X (w.heap.size+1) 95 [.int .i64 1,.string ⟨#[]⟩,.string ⟨#[]⟩,.slice Ae 2 ce,.slice none 0 0]
 boxR:Blk X (w.heap.size+1+1) 26 [.slice none 0 0,.slice none 0 0]
 stp:Blk X gs 141 [.func (.func 113) #[.pointer (some ⟨g,0,none⟩)] #[],.func (.func 114) #[.pointer (some ⟨g,0,none⟩)] #[],.func (.func 115) #[.pointer (some ⟨g,0,none⟩)] #[],.func (.func 116) #[.pointer (some ⟨g,0,none⟩)] #[],.func (.func 117) #[.pointer (some ⟨g,0,none⟩)] #[]]
theorem KnS.below {w X X':World}{g bl be bn gs:Nat}{Ae:Option Addr}{ce:Nat}(h:KnS w X g bl be bn gs Ae ce)(hb:Below X.heap.size X X'):KnS w X' g bl be bn gs Ae ce:=
 ⟨z0r h.bel hb,h.chk.below hb h.chk.lt,z2f.below h.last hb,h.ne,h.eds.below hb,h.boxD.below hb h.boxD.lt,h.boxC.below hb h.boxC.lt,h.boxR.below hb h.boxR.lt,h.stp.below hb h.stp.lt⟩
theorem KnS.every {w X X':World}{g bl be bn gs:Nat}{Ae:Option Addr}{ce:Nat}(h:KnS w X g bl be bn gs Ae ce)(ho:∃ es c,X.heap[be]? = some (.map es c))(hg:X.grownBy X' (some be))(hle:w.heap.size≤be):KnS w X' g bl be bn gs Ae ce:=
 ⟨h.bel.grown hg h.bel.size (fun k e=>by injection e with e;omega),Blk.turn h.chk ho hg,z2f.grown h.last hg (by intro e;injection e with e;exact h.ne e),h.ne,Row.turn h.eds (by decide) ho hg,Blk.turn h.boxD ho hg,Blk.turn h.boxC ho hg,Blk.turn h.boxR ho hg,Blk.turn h.stp ho hg⟩
def KnAp (w:World)(e:Ending)(w':World):Prop:=∃(A:Option Addr) (c:Nat) (A2:Option Addr) (c2:Nat),e=.returned (.tuple #[.agg #[.slice A 2 c,.slice A2 0 c2],.int .i64 0])∧z45 w' (.slice A 2 c) knD∧Below w.heap.size w w'
theorem znb {k:Nat}{p:ByteArray}(hk:k<2)(h0:k=0→p=knA)(h1:k=1→p=knB):(knD.take (k+1)).flatMap Rev.cells=(knD.take k).flatMap Rev.cells++[.string p,.int .i64 1,.int .i64 1,.int .i64 1,.int .i64 1,.bool false,.bool false,.bool false,.int .u64 1,.int .i64 1,.string ⟨#[]⟩,.int .i64 0]:=by
 rcases (by omega:k=0∨k=1) with rfl | rfl
 ·rw[h0 rfl];rfl
 ·rw[h1 rfl];rfl
theorem znc (Ae:Option Addr)(ce:Nat)(w:World)(hE:KnE w Ae ce):Calls Tryz.prog 43 #[.agg #[.slice none 0 0,.slice none 0 0],.agg #[.int .i64 1,.string ⟨#[]⟩,.string ⟨#[]⟩,.slice Ae 2 ce,.slice none 0 0]] w (KnAp w):=by
 obtain⟨W1,hW1⟩:∃ W,W=((w.alloc (.cells #[.slice none 0 0,.slice none 0 0] 26)).alloc (.cells #[.int .i64 1,.string ⟨#[]⟩,.string ⟨#[]⟩,.slice Ae 2 ce,.slice none 0 0] 95)).alloc (.cells #[.slice none 0 0,.slice none 0 0] 26):=⟨_,rfl⟩;have hb1:Below w.heap.size w W1:=by rw[hW1];exact (((Below.refl _ _).alloc (Nat.le_refl _) _).alloc (by simp) _).alloc (by simp;omega) _
 have hs1:W1.heap.size=w.heap.size+1+1+1:=by rw[hW1];simp
 have hB1:Blk W1 w.heap.size 26 [.slice none 0 0,.slice none 0 0]:=by rw[hW1];exact ((z0l w _ _).alloc _).alloc _
 have hB2:Blk W1 (w.heap.size+1) 95 [.int .i64 1,.string ⟨#[]⟩,.string ⟨#[]⟩,.slice Ae 2 ce,.slice none 0 0]:=by
  rw[hW1];have:=z0l (w.alloc (.cells #[.slice none 0 0,.slice none 0 0] 26)) [.int .i64 1,.string ⟨#[]⟩,.string ⟨#[]⟩,.slice Ae 2 ce,.slice none 0 0] 95;simp only[World.size_alloc] at this
  exact this.alloc _
 have hB3:Blk W1 (w.heap.size+1+1) 26 [.slice none 0 0,.slice none 0 0]:=by
  rw[hW1];have:=z0l ((w.alloc (.cells #[.slice none 0 0,.slice none 0 0] 26)).alloc (.cells #[.int .i64 1,.string ⟨#[]⟩,.string ⟨#[]⟩,.slice Ae 2 ce,.slice none 0 0] 95)) [.slice none 0 0,.slice none 0 0] 26;simp only[World.size_alloc] at this
  exact this
 have HW1:=hd_ hW1;have HNC:=hd_ (knNew Ae ce W1);have HE:=hd_ hE;clear hW1 hE;go_enter Tryz.func43,Tryz.ntmps43;obtain⟨c0,c1,-,-⟩:=box2 hB1;obtain⟨d0,d1,d2,d3,d4⟩:=zhx hB2;go_upto_region 1 with fail;rw[← HW1.out];go_wp2_with fail;refine HNC.out.mono ?_;rintro e w2 ⟨g,bl,be,bn,rfl,hK2⟩;have HK2:=hd_ hK2;clear c0 c1 d0 d1 d2 d3 d4 hK2;go_wp2_with fail;refine (knSteps g w2).mono ?_;rintro e w3 ⟨rfl,hb3,hs3⟩;have HST:Hid (KnS w w3 g bl be bn w2.heap.size Ae ce):=hd_ (by
  have k:=HK2.out;have hb13:Below W1.heap.size W1 w3:=z0r k.bel hb3;have hbw:Below w.heap.size w w3:=z0r hb1 hb13;exact⟨hbw,k.chk.below hb3 k.chk.lt,z2f.below k.last hb3,k.ne,KnE.below HE.out hbw,hB1.below hb13 hB1.lt,hB2.below hb13 hB2.lt,hB3.below hb13 hB3.lt,hs3⟩)
 have HEM:Hid (∃ F,z7s w3 be F):=hd_ (by obtain⟨F,hF⟩:=HK2.out.edt;exact⟨F,z2f.below hF hb3⟩)
 have HLE:Hid (w.heap.size≤be):=hd_ (by have:=HK2.out.le;omega)
 clear hb3 hs3 hB1 hB2 hB3 hb1 hs1 HK2 HNC HW1;generalize w2.heap.size=gs at HST ⊢;go_wp2_with fail;refine wp_loop_rounds 6 ?_;rw[rounds_succ];have t0:w3.cell? ⟨gs,0,none⟩=some (.func (.func 113) #[.pointer (some ⟨g,0,none⟩)] #[]):=HST.out.stp.cell 0;have HZ0:=hd_ (knSize g bl be bn Ae ce w3 HST.out.chk);go_wp2_with fail;refine HZ0.out.mono ?_;rintro e v0 ⟨rfl,hv⟩;have HS0:=hd_ (HST.out.below hv);have HEM0:Hid (∃ F,z7s v0 be F):=hd_ (by obtain⟨F,hF⟩:=HEM.out;exact⟨F,z2f.below hF hv⟩)
 clear hv t0 HZ0 HST HEM;go_wp2_with fail;rw[rounds_succ];have t1:v0.cell? ⟨gs,1,none⟩=some (.func (.func 114) #[.pointer (some ⟨g,0,none⟩)] #[]):=HS0.out.stp.cell 1;obtain⟨F,hF⟩:=HEM0.out;have HOB:=hd_ (z2f.obj hF);have HZ1:=hd_ (knEvery g bl be bn Ae ce v0 HS0.out.chk HS0.out.last HS0.out.ne HS0.out.eds hF);clear hF HEM0;go_wp2_with fail;refine HZ1.out.mono ?_;rintro e v1 ⟨rfl,hv⟩;have HS1:=hd_ (HS0.out.every HOB.out hv HLE.out);clear hv t1 HZ1 HS0 HOB;go_wp2_with fail;rw[rounds_succ];have t2:v1.cell? ⟨gs,2,none⟩=some (.func (.func 115) #[.pointer (some ⟨g,0,none⟩)] #[]):=HS1.out.stp.cell 2;have HZ2:=hd_ (knMoves g bl be bn Ae ce v1 HS1.out.chk HS1.out.eds);go_wp2_with fail;refine HZ2.out.mono ?_;rintro e v2 ⟨rfl,hv⟩;have HS2:=hd_ (HS1.out.below hv);clear hv t2 HZ2 HS1;go_wp2_with fail;rw[rounds_succ];have t3:v2.cell? ⟨gs,3,none⟩=some (.func (.func 116) #[.pointer (some ⟨g,0,none⟩)] #[]):=HS2.out.stp.cell 3;have HZ3:=hd_ (knRecs g bl be bn Ae ce v2 HS2.out.chk);go_wp2_with fail;refine HZ3.out.mono ?_;rintro e v3 ⟨rfl,hv⟩;have HS3:=hd_ (HS2.out.below hv);clear hv t3 HZ3 HS2;go_wp2_with fail;rw[rounds_succ];have t4:v3.cell? ⟨gs,4,none⟩=some (.func (.func 117) #[.pointer (some ⟨g,0,none⟩)] #[]):=HS3.out.stp.cell 4;have HZ4:=hd_ (knRoom g bl be bn Ae ce v3 HS3.out.chk);go_wp2_with fail;refine HZ4.out.mono ?_;rintro e v4 ⟨rfl,hv⟩;have HS4:=hd_ (HS3.out.below hv);clear hv t4 HZ4 HS3;go_wp2_with fail;rw[rounds_succ];go_upto_region 9 with fail;refine knR9 _ (by kernel_rfl) _ w.heap.size (w.heap.size+1) (.slice Ae 2 ce) v4 HS4.out.boxD HS4.out.boxC _ _ _ _ _ _ _ _ _ _ _ _ _ _ _ _ _ _ _ _ _ _ _ _ _ _ _ _ _ _ _ _ _ _ _ _ _ _ _ _ _ _ _ _ _ _ _ _ _ _ _ _ _ _ _ _ _ _ ?_
 intro eH eI eJ eK eL eM eN eO eP eQ g10 v2' w5 H9;have HR0:=hd_ H9.out.1;obtain⟨A2,c2,hv2⟩:=H9.out.2;clear H9;subst hv2;have e3:w5.cell? ⟨w.heap.size+1,3,none⟩=some (.slice Ae 2 ce):=(HS4.out.below HR0.out.bel).boxC.cell 3;go_wp2_with fail;clear e3;go_loopw [43] (fun s wr=>∃(k:Nat) (v1:Value),s=.int .i64 k∧k≤2∧Hid (WaR v4 wr g10 v1 (.slice A2 0 c2) k ((knD.take k).flatMap Rev.cells))) (fun s _=>2 - (intOf s).toNat)
 case atStart=>exact⟨0,_,rfl,by omega,HR0.out⟩
 case round =>
  obtain⟨k,v1,rfl,hk,HK⟩:=hrel;by_cases hlt:k<2
  ·obtain⟨ad,p,rfl,hab,⟨x0,x1,x2,x3,x4,x5,x6,x7,x8,x9,x10,x11⟩,hp0,hp1⟩:=(HS4.out.below HK.out.bel).eds.at_ k hlt;have HT:=hd_ (znb hlt hp0 hp1);have hX1:=z0l wr [.string p,.int .i64 1,.int .i64 1,.bool false,.bool false,.bool false,.int .u64 1,.int .i64 1,.int .i64 0,.string ⟨#[]⟩,.int .i64 0,.int .i64 0] 90;have hA1:Below wr.heap.size wr (wr.alloc (.cells #[.string p,.int .i64 1,.int .i64 1,.bool false,.bool false,.bool false,.int .u64 1,.int .i64 1,.int .i64 0,.string ⟨#[]⟩,.int .i64 0,.int .i64 0] 90)):=(Below.refl _ _).alloc (Nat.le_refl _) _;have q2:decide ((k:Int)<2)=true:=by simp;omega
   clear hp0 hp1;go_upto_region 13 with fail;clear x0 x1 x2 x3 x4 x5 x6 x7 x8 x9 x10 x11;generalize wr.alloc (.cells #[.string p,.int .i64 1,.int .i64 1,.bool false,.bool false,.bool false,.int .u64 1,.int .i64 1,.int .i64 0,.string ⟨#[]⟩,.int .i64 0,.int .i64 0] 90)=V1 at hX1 hA1 ⊢;have HRV2:=hd_ (fun X (hX:Below V1.heap.size V1 X)=>zij p g bl be bn _ ce X ((HS4.out.below (z0r (z0r HK.out.bel hA1) hX)).chk) ((HS4.out.below (z0r (z0r HK.out.bel hA1) hX)).last));have HAR:=hd_ (HK.out.under hA1);have HX1:=hd_ hX1;clear hX1;refine knR13 _ (by kernel_rfl) _ g g10 wr.heap.size k p v1 _ _ v4 V1 HAR.out HX1.out (by omega) HRV2.out _ _ _ _ _ _ _ _ _ _ _ _ _ _ _ _ _ _ _ _ _ _ _ _ _ _ _ _ _ _ _ _ _ _ _ _ _ _ _ _ _ _ _ _ _ _ _ _ _ _ _ _ _ _ _ _ _ ?_
   intro eY eZ fa fd fe ff fg fh v3 w6 HQ;go_wp2_with fail;go_roundw
   case rel =>
    refine⟨k+1,v3,by go_num,by omega,?_⟩
    have:=HQ.out;rw[← HT.out] at this;exact this
   case measure=>simp [intOf];omega
  ·have hkk:k=2:=by omega
   subst hkk;have hR2:=HK.out;obtain⟨A1,c1,hv1⟩:=z0o hR2.one;subst hv1;have HSR:=hd_ (fun X=>knSort A2 c2 (.func (.func 78) #[] #[]) X);have b1':wr.cell? ⟨g10,1,none⟩=some (.slice A2 0 c2):=hR2.box.cell 1;have HR2:=hd_ hR2;clear hR2 HK;have q2:decide ((2:Int)<2)=false:=by decide
   go_wp2_with fail;refine (HSR.out _).mono ?_;rintro e w6 ⟨rfl,rfl⟩;have hbx:=HR2.out.box;have hre:=(HS4.out.below HR2.out.bel).boxR;have hbw:=(HS4.out.below HR2.out.bel).bel;have hlt6:w.heap.size+1+1<v4.heap.size:=HS4.out.boxR.lt;have HBW:=hd_ hbw;clear b1' hbw;obtain⟨b0,b1,-,-⟩:=box2 hbx;obtain⟨r0,r1,f0,f1⟩:=box2 hre;go_wp2_with fail;have hR5:=(hre.set_ 0 (.slice A1 2 c1)).set_ 1 (.slice A2 0 c2);have hB5:=(HBW.out.setCell (p:=⟨w.heap.size+1+1,0,none⟩) (by simp;omega) (.slice A1 2 c1)).setCell (p:=⟨w.heap.size+1+1,1,none⟩) (by simp;omega) (.slice A2 0 c2)
   have hO5:=Row.of_own (z4r (z4r HR2.out.one (p:=⟨w.heap.size+1+1,0,none⟩) (fun e=>by have:=HR2.out.one.lt _ e;simp at this;omega) (.slice A1 2 c1)) (p:=⟨w.heap.size+1+1,1,none⟩) (fun e=>by have:=HR2.out.one.lt _ e;simp at this;omega) (.slice A2 0 c2))
   clear b0 b1 r0 r1 f0 f1 hre hbx;generalize (wr.setCell ⟨w.heap.size+1+1,0,none⟩ (.slice A1 2 c1)).setCell ⟨w.heap.size+1+1,1,none⟩ (.slice A2 0 c2)=W5 at hR5 hB5 hO5 ⊢;obtain⟨r0,r1,-,-⟩:=box2 hR5;exact bodyPost_ret (v:=.tuple #[.agg #[.slice A1 2 c1,.slice A2 0 c2],.int .i64 0]) (by simp [results,Tryz.results43,go_sem,r0,r1]) rfl ⟨A1,c1,_,_,rfl,hO5,hB5⟩
theorem zne (w:World)(he:Env w):Calls Tryz.prog 14 #[] w fun e w'=>e=.returned (.bool true)∧Below w.heap.size w w':=by
 have HE:=hd_ he;clear he;have hx1:=z0l w [.string ⟨#[47,47,100,47,97]⟩,.int .i64 1,.int .i64 1,.bool false,.bool false,.bool false,.int .u64 1,.int .i64 1,.int .i64 0,.string ⟨#[]⟩,.int .i64 0,.int .i64 0] 90;have hb1:Below w.heap.size w (w.alloc (.cells #[.string ⟨#[47,47,100,47,97]⟩,.int .i64 1,.int .i64 1,.bool false,.bool false,.bool false,.int .u64 1,.int .i64 1,.int .i64 0,.string ⟨#[]⟩,.int .i64 0,.int .i64 0] 90)):=(Below.refl _ _).alloc (Nat.le_refl _) _;go_enter Tryz.func14,Tryz.ntmps14;go_upto_region 2 with fail;generalize w.alloc (.cells #[.string ⟨#[47,47,100,47,97]⟩,.int .i64 1,.int .i64 1,.bool false,.bool false,.bool false,.int .u64 1,.int .i64 1,.int .i64 0,.string ⟨#[]⟩,.int .i64 0,.int .i64 0] 90)=W1 at hx1 hb1 ⊢;obtain⟨g1,hg1⟩:∃ g,g=w.heap.size:=⟨_,rfl⟩;rw[← hg1] at hx1 ⊢;obtain⟨x0,x1,x2,x3,x4,x5,x6,x7,x8,x9,x10,x11⟩:=z7z hx1;have hy2:=z0l W1 [.string ⟨#[47,47,100,47,97]⟩,.int .i64 1,.int .i64 1,.bool false,.bool false,.bool false,.int .u64 1,.int .i64 1,.int .i64 0,.string ⟨#[]⟩,.int .i64 0,.int .i64 0] 90;have HG1:=hd_ hg1;clear hg1;go_upto_region 3 with fail;have HB2:=hd_ (zcf hb1 (.cells #[.string ⟨#[47,47,100,47,97]⟩,.int .i64 1,.int .i64 1,.bool false,.bool false,.bool false,.int .u64 1,.int .i64 1,.int .i64 0,.string ⟨#[]⟩,.int .i64 0,.int .i64 0] 90));have hx2:=hx1.alloc (.cells #[.string ⟨#[47,47,100,47,97]⟩,.int .i64 1,.int .i64 1,.bool false,.bool false,.bool false,.int .u64 1,.int .i64 1,.int .i64 0,.string ⟨#[]⟩,.int .i64 0,.int .i64 0] 90);have hlt:g1<W1.heap.size:=hx1.lt;have hlw:=HB2.out.size;have hle2:w.heap.size≤W1.heap.size:=hb1.size;clear x0 x1 x2 x3 x4 x5 x6 x7 x8 x9 x10 x11 hx1 hb1 hlw;generalize W1.alloc (.cells #[.string ⟨#[47,47,100,47,97]⟩,.int .i64 1,.int .i64 1,.bool false,.bool false,.bool false,.int .u64 1,.int .i64 1,.int .i64 0,.string ⟨#[]⟩,.int .i64 0,.int .i64 0] 90)=W2 at HB2 hx2 hy2 ⊢;generalize W1.heap.size=g2 at hy2 hlt hle2 ⊢;have f0:W2.cell? ⟨g2,0,none⟩=some (.string ⟨#[47,47,100,47,97]⟩):=hy2.cell 0;have f1:W2.frozen? ⟨g2,0,none⟩=false:=hy2.frozen 0
 go_upto_region 4 with fail;have hy3:=hy2.set_ 0 (.string ⟨#[47,47,100,47,98]⟩);have hx3:=hx2.far (p:=⟨g2,0,none⟩) (by show g2≠g1;omega) (.string ⟨#[47,47,100,47,98]⟩)
 have HB3:=hd_ (HB2.out.setCell (p:=⟨g2,0,none⟩) hle2 (.string ⟨#[47,47,100,47,98]⟩));clear f0 f1 hx2 hy2 HB2;generalize W2.setCell ⟨g2,0,none⟩ (.string ⟨#[47,47,100,47,98]⟩)=W3 at hy3 hx3 HB3 ⊢;obtain⟨x0,x1,x2,x3,x4,x5,x6,x7,x8,x9,x10,x11⟩:=z7z hx3;have hy3':Blk W3 g2 90 [.string ⟨#[47,47,100,47,98]⟩,.int .i64 1,.int .i64 1,.bool false,.bool false,.bool false,.int .u64 1,.int .i64 1,.int .i64 0,.string ⟨#[]⟩,.int .i64 0,.int .i64 0]:=hy3;obtain⟨y0,y1,y2,y3,y4,y5,y6,y7,y8,y9,y10,y11⟩:=z7z hy3';have HAP:=hd_ (znc (some ⟨W3.heap.size,0,none⟩) 2 (W3.alloc (.cells #[.string ⟨#[47,47,100,47,97]⟩,.int .i64 1,.int .i64 1,.bool false,.bool false,.bool false,.int .u64 1,.int .i64 1,.int .i64 0,.string ⟨#[]⟩,.int .i64 0,.int .i64 0,.string ⟨#[47,47,100,47,98]⟩,.int .i64 1,.int .i64 1,.bool false,.bool false,.bool false,.int .u64 1,.int .i64 1,.int .i64 0,.string ⟨#[]⟩,.int .i64 0,.int .i64 0] 90)) (z0i W3 [.string ⟨#[47,47,100,47,97]⟩,.int .i64 1,.int .i64 1,.bool false,.bool false,.bool false,.int .u64 1,.int .i64 1,.int .i64 0,.string ⟨#[]⟩,.int .i64 0,.int .i64 0,.string ⟨#[47,47,100,47,98]⟩,.int .i64 1,.int .i64 1,.bool false,.bool false,.bool false,.int .u64 1,.int .i64 1,.int .i64 0,.string ⟨#[]⟩,.int .i64 0,.int .i64 0] 90 12 2 rfl (by decide) _ rfl))
 have HB4:=hd_ (zcf HB3.out (.cells #[.string ⟨#[47,47,100,47,97]⟩,.int .i64 1,.int .i64 1,.bool false,.bool false,.bool false,.int .u64 1,.int .i64 1,.int .i64 0,.string ⟨#[]⟩,.int .i64 0,.int .i64 0,.string ⟨#[47,47,100,47,98]⟩,.int .i64 1,.int .i64 1,.bool false,.bool false,.bool false,.int .u64 1,.int .i64 1,.int .i64 0,.string ⟨#[]⟩,.int .i64 0,.int .i64 0] 90));clear hy3 hx3 HB3;go_wp2_with fail;refine HAP.out.mono ?_;rintro e w5 ⟨A,c,A2,c2,rfl,hR5,hb5⟩;dsimp only;have HB5:=hd_ (z0r HB4.out hb5);have HR5:=hd_ hR5;clear x0 x1 x2 x3 x4 x5 x6 x7 x8 x9 x10 x11 y0 y1 y2 y3 y4 y5 y6 y7 y8 y9 y10 y11 hy3' hR5 hb5 HAP HB4;go_upto_region 5 with fail;have HX6:=hd_ (z0l w5 [.slice A 2 c,.slice A2 0 c2] 26);have ha6:Below w5.heap.size w5 (w5.alloc (.cells #[.slice A 2 c,.slice A2 0 c2] 26)):=(Below.refl _ _).alloc (Nat.le_refl _) _;have HB6:=hd_ (z0r HB5.out ha6);have HR6:=hd_ (HR5.out.below ha6);clear ha6 HR5 HB5;generalize w5.alloc (.cells #[.slice A 2 c,.slice A2 0 c2] 26)=W6 at HX6 HB6 HR6 ⊢;generalize w5.heap.size=g6 at HX6 ⊢;go_upto_region 6 with fail;have hP1:=z0l W6 [.string ⟨#[100]⟩] 9;have hP2:=z0l (W6.alloc (.cells #[.string ⟨#[100]⟩] 9)) [.string ⟨#[99]⟩] 9;have ha7:Below W6.heap.size W6 (W6.alloc (.cells #[.string ⟨#[100]⟩] 9)):=(Below.refl _ _).alloc (Nat.le_refl _) _;have ha8:=zcf ha7 (.cells #[.string ⟨#[99]⟩] 9);have hP3:=hP1.alloc (.cells #[.string ⟨#[99]⟩] 9);rw[World.size_alloc] at hP2;have HM:=hd_ (zgm (n:=1) (cs:=[.slice (some ⟨W6.heap.size,0,none⟩) 1 1,.bool true,.slice (some ⟨W6.heap.size+1,0,none⟩) 1 1,.bool true,.slice none 0 0]) (es:=([⟨(⟨[zg1 100],true⟩,some ⟨W6.heap.size,0,none⟩,1),(⟨[zg1 99],true⟩,some ⟨W6.heap.size+1,0,none⟩,1),.slice none 0 0,[]⟩]:List zd8)) ha8 rfl rfl (by show 1≤1000;omega) (by
  intro x hx;simp only[List.mem_cons,List.not_mem_nil,or_false] at hx
  subst hx;exact⟨zgk (l:=[zg1 100]) hP3 rfl (by decide) (by decide),zgk (l:=[zg1 99]) hP2 rfl (by decide) (by decide),zgl _,Nat.zero_le _⟩))
 have hes:([⟨(⟨[zg1 100],true⟩,some ⟨W6.heap.size,0,none⟩,1),(⟨[zg1 99],true⟩,some ⟨W6.heap.size+1,0,none⟩,1),.slice none 0 0,[]⟩]:List zd8).map zd8.pl=zg3 0:=rfl;generalize ([⟨(⟨[zg1 100],true⟩,some ⟨W6.heap.size,0,none⟩,1),(⟨[zg1 99],true⟩,some ⟨W6.heap.size+1,0,none⟩,1),.slice none 0 0,[]⟩]:List zd8)=es at HM hes;have HES:=hd_ hes;simp only[World.size_alloc] at HM
 clear hP1 hP2 hP3 ha7 ha8 hes;have HB9:=hd_ (z0r HB6.out HM.out.2);have HR9:=hd_ (HR6.out.below HM.out.2);have HX9:=hd_ (HX6.out.below HM.out.2 HX6.out.lt);have HM9:=hd_ HM.out.1;clear HM HB6 HR6 HX6;(try simp only[World.size_alloc])
 generalize ((W6.alloc (.cells #[.string ⟨#[100]⟩] 9)).alloc (.cells #[.string ⟨#[99]⟩] 9)).alloc (.cells #[.slice (some ⟨W6.heap.size,0,none⟩) 1 1,.bool true,.slice (some ⟨W6.heap.size+1,0,none⟩) 1 1,.bool true,.slice none 0 0] 100)=W9 at HB9 HR9 HX9 HM9 ⊢;generalize W6.heap.size+1+1=g9 at HM9 ⊢;go_upto_region 7 with fail;have hH:=z0i W9 [.string ⟨#[47,47,100,47,97]⟩,.int .i64 1,.string ⟨#[47,47,99,47,98]⟩,.string ⟨#[47,47,100,47,98]⟩,.int .i64 1,.string ⟨#[47,47,99,47,97]⟩] 44 3 2 rfl (by decide) _ rfl
 have ha10:Below W9.heap.size W9 (W9.alloc (.cells #[.string ⟨#[47,47,100,47,97]⟩,.int .i64 1,.string ⟨#[47,47,99,47,98]⟩,.string ⟨#[47,47,100,47,98]⟩,.int .i64 1,.string ⟨#[47,47,99,47,97]⟩] 44)):=(Below.refl _ _).alloc (Nat.le_refl _) _;have HB10:=hd_ (z0r HB9.out ha10);have HR10:=hd_ (HR9.out.below ha10);have HX10:=hd_ (HX9.out.below ha10 HX9.out.lt);have HM10:=hd_ (HM9.out.below ha10);have HH10:Hid (z4b _ _ knH):=hd_ hH;clear hH ha10 HB9 HR9 HX9 HM9;generalize W9.alloc (.cells #[.string ⟨#[47,47,100,47,97]⟩,.int .i64 1,.string ⟨#[47,47,99,47,98]⟩,.string ⟨#[47,47,100,47,98]⟩,.int .i64 1,.string ⟨#[47,47,99,47,97]⟩] 44)=W10 at HB10 HR10 HX10 HM10 HH10 ⊢;generalize W9.heap.size=g10 at HH10 ⊢;obtain⟨x0,x1,-,-⟩:=box2 HX10.out;have hO:=z0i W10 [.string ⟨#[47,47,100,47,98]⟩] 9 1 1 rfl (by decide) _ rfl
 have ha11:Below W10.heap.size W10 (W10.alloc (.cells #[.string ⟨#[47,47,100,47,98]⟩] 9)):=(Below.refl _ _).alloc (Nat.le_refl _) _;have HB11:=hd_ (z0r HB10.out ha11);have HPL:=hd_ (zn3 (hs:=knH) (op:=[knB]) (dt:=[]) (dr:=.slice A2 0 c2) (kn_plOk HES.out) 1 (HE.out.below HB11.out) (HR10.out.below ha11) (HM10.out.below ha11) (HH10.out.below ha11) kn_hav (by decide) hO (Row.nil_ _ 1) (by decide) (by decide))
 rw[kn_fwd HES.out,kn_plan] at HPL;clear hO ha11 HB10 HR10 HX10 HM10 HH10;go_wp2_with fail;refine HPL.out.mono ?_;rintro e w12 ⟨pv,rfl,hp,hb⟩;dsimp only;have HB12:=hd_ (z0r HB11.out hb);have hS:=z0i w12 [.int .i64 5,.string ⟨#[47,47,100,47,97]⟩,.int .i64 1,.string ⟨#[47,47,99,47,98]⟩,.string ⟨#[47,47,99,47,97]⟩,.int .i64 6,.string ⟨#[47,47,100,47,98]⟩,.int .i64 1,.string ⟨#[47,47,99,47,97]⟩,.string ⟨#[47,47,99,47,98]⟩] 48 5 2 rfl (by decide) _ rfl
 have ha13:Below w12.heap.size w12 (w12.alloc (.cells #[.int .i64 5,.string ⟨#[47,47,100,47,97]⟩,.int .i64 1,.string ⟨#[47,47,99,47,98]⟩,.string ⟨#[47,47,99,47,97]⟩,.int .i64 6,.string ⟨#[47,47,100,47,98]⟩,.int .i64 1,.string ⟨#[47,47,99,47,97]⟩,.string ⟨#[47,47,99,47,98]⟩] 48)):=(Below.refl _ _).alloc (Nat.le_refl _) _;have HB13:=hd_ (z0r HB12.out ha13);have HSM:=hd_ (znd _ _ _ _ (hp.below ha13) hS);clear hp hb hS ha13 HPL HB11 x0 x1;go_wp2_with fail;refine HSM.out.mono ?_;rintro e w14 ⟨rfl,hb⟩;have HB14:=hd_ (z0r HB13.out hb);clear hb HSM;go_wp2_with fail;go_ret;exact⟨rfl,HB14.out⟩
open Go.RowKit Go.ChangeShapes Go.WideShapes Go.Deep
section
variable {H : Type} {enc : TypeId × Value → H} {P : Program} {w : World} {spare : Nat → Bool} {held : Bool}
theorem zpr {w:World}{b:Nat}{x:TypeId×Nat}(h:w.shape? b=some x):b<w.heap.size:=by
 rcases Nat.lt_or_ge b w.heap.size with h1 | h1
 ·exact h1
 ·have:w.heap[b]? = none:=Array.getElem?_eq_none h1;unfold World.shape? at h
  rw[this] at h;cases h
theorem zps {t e:TypeId}{r:Reach}{b0:Nat}{v:Value}{d:DataW H}{p:List MemPlace}(ht:P.underlying t=some (.slice e))(he:P.underlying e=some (.int .i64))(hc:P.cellsOf e=1)
  (hv:Value.okWide P w r b0 t v) (h:DataW.Trod enc P w 0 spare held t v d p):
  ∃(l:List Int) (A:Option Addr) (c:Nat),v=.slice A l.length c∧Row w 1 (.slice A l.length c) l.length (l.map fun(n:Int)=>.int .i64 n)∧∀ ad,A=some ad→ad.block<w.heap.size:=by
 obtain⟨a,n,c,rfl⟩:=okWide_slice ht hv;have hlt:∀ ad,a=some ad→ad.block<w.heap.size:=by
  rintro ad rfl;simp only[Value.okWide,ht,Cell.okWide,Cell.ok] at hv
  obtain⟨-,-,-,-,row,cells,hs,-⟩:=hv;exact zpr hs
 obtain⟨fuel,hf⟩:=h;rcases open_ints ht he hc hf with⟨hcs,_⟩ | ⟨x,l,c',zs,hcs,_,hl,hm,hz,_,hcell,hwz⟩
 ·simp [Value.cells] at hcs
  obtain⟨rfl,rfl,rfl⟩:=hcs;exact⟨[],none,0,rfl,Row.nil_ w 1,fun ad e=>by cases e⟩
 ·simp [Value.cells] at hcs
  obtain⟨rfl,rfl,rfl⟩:=hcs;have hzl:n≤zs.length:=by rw[hz];split <;> omega
  have hlen:(zs.take n).length=n:=by simp;omega
  refine⟨zs.take n,some x,c,by rw[hlen],?_,hlt⟩
  rw[hlen];refine⟨_,_,rfl,hl,hm,by simp;omega,fun h=>(by cases h),fun hn=>⟨x,rfl,hlt x rfl,fun j u hu=>?_⟩⟩
  have hj:j<n:=by
   have:=(List.getElem?_eq_some_iff.1 hu).1;simp at this;omega
  rw[hcell j (by omega),← hu]
  simp only[List.getElem?_map,List.getElem?_take,hj,if_true,List.getElem?_eq_getElem (show j<zs.length by omega),Option.map_some]
  simp only[List.getD_eq_getElem?_getD,List.getElem?_eq_getElem (show j<zs.length by omega),Option.getD_some]
end
theorem env_of {W:World}(h:W.ShapedOpen Tryz.prog):Env W:=Tryz.laysM143.s1_3 W h
end Go.Proofs.YtegeboijhifmcaaGreatDoor
