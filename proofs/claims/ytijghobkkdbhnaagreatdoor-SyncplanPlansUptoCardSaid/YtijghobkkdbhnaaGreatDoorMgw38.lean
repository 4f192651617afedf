/- A part. -/
import Derived.Test.YtijghobkkdbhnaaGreatDoorMgw31
import Derived.Test.YtijghobkkdbhnaaGreatDoorMgw29
import Derived.Test.YtijghobkkdbhnaaGreatDoorMgw32
set_option linter.unusedVariables false
set_option linter.unusedSimpArgs false
set_option maxHeartbeats 8000000
set_option maxRecDepth 100000
namespace Go.Proofs.YtijghobkkdbhnaaGreatDoor
open Go.Proofs.Tryz
open Go.RowKit
open Go.Sort (grow)
def zkv (hs:List Hav)(pl:List Syn):Int:=if z4g hs=0 then (if 1024<(z4y hs pl).length then 351 else 0) else 350
def zkw (w:World)(hs:List Hav)(pl:List Syn)(e:Ending)(w':World):Prop:=Below w.heap.size w w'∧∃ v,e=.returned (.tuple #[v,.int .i64 (zkv hs pl)])∧z4z w' v (if zkv hs pl=0 then pl else [])
theorem zkw.bad {w w':World}{hs:List Hav}{pl:List Syn}{c:Int}(hc:zkv hs pl=c)(h0:c≠0)(hb:Below w.heap.size w w'):zkw w hs pl (.returned (.tuple #[.slice none 0 0,.int .i64 c])) w':=
 ⟨hb,_,by rw[hc],by rw[hc,if_neg h0];exact Row.nil_ _ 5⟩
theorem zkw.good {w w':World}{hs:List Hav}{pl:List Syn}{v:Value}(hc:zkv hs pl=0)(hb:Below w.heap.size w w')(hv:z4z w' v pl):zkw w hs pl (.returned (.tuple #[v,.int .i64 0])) w':=
 ⟨hb,v,by rw[hc],by rw[hc,if_pos rfl];exact hv⟩
theorem zkx (D:List Rev)(es:List zdd)(m:Int)(hs:List Hav)(op dt:List ByteArray)(dv dr mv hv ov tv:Value)(w:World)(he:Env w)(hR:z45 w dv D)(hE:zdn w mv es)(hl:D.length≤1000000)(h6:∀ r∈D,r.path∈zfm)(hS:zfz es)(hnum:∀ r∈D,1≤r.num)(hf:zfp (zdy es))
  (hH:z4b w hv hs) (hsz:∀ x∈hs,x.path.size≤2000000∧x.loc.size≤2000000) (hop:Strs w ov op) (hdt:Strs w tv dt) (hopl:op.length≤1000) (hdtl:dt.length≤1000):
  Calls prog 12 #[.agg #[dv,dr],mv,.int .i64 m,hv,ov,tv] w (zkw w hs (zff hs (zfr D (zdy es) m) op dt)):=by
 obtain⟨Ah,ch,rfl,-⟩:=id hH;obtain⟨Ao,co,rfl,-⟩:=id hop;obtain⟨At,ct,rfl,-⟩:=id hdt;obtain⟨Ad,cd,rfl,-⟩:=id hR;have hwok:=zfu (m:=m) hnum hf;have hwl:(zfr D (zdy es) m).length≤6:=zfw;have HWN:=hd_ (fun X (hX:Below w.heap.size w X)=>zg7 D es m (.slice Ad D.length cd) dr mv X (he.below hX) (hR.below hX) (hE.below hX) hl h6 hS);generalize zfr D (zdy es) m=ws at *;have HHC:Hid (∀ X,Below w.heap.size w X→Calls prog 42 #[.slice Ah hs.length ch] X fun e w'=>e=.returned (.int .i64 (z4g hs))∧Below X.heap.size X w'):=hd_ fun X hX =>
  z4o hs (.slice Ah hs.length ch) X (Row.below hH hX) (fun x hx=>by have:=hsz x hx;omega)
 have HH:=hd_ hH;have HOP:=hd_ hop;have HDT:=hd_ hdt;have HWOK:=hd_ hwok;obtain⟨d0,d1⟩:=(⟨(z0l w [.slice Ad D.length cd,dr] 27).cell 0,(z0l w [.slice Ad D.length cd,dr] 27).cell 1⟩:(w.alloc (.cells #[.slice Ad D.length cd,dr] 27)).cell? ⟨w.heap.size,0,none⟩=some (.slice Ad D.length cd)∧(w.alloc (.cells #[.slice Ad D.length cd,dr] 27)).cell? ⟨w.heap.size,1,none⟩=some dr);have hA:Below w.heap.size w (w.alloc (.cells #[.slice Ad D.length cd,dr] 27)):=(Below.refl _ _).alloc (Nat.le_refl _) _;have HA:=hd_ hA;clear he hR hE hl h6 hS hnum hf hH hsz hop hdt hwok hA;go_enter func12,ntmps12;go_wp2_with fail;refine (HWN.out _ HA.out).mono ?_;rintro e w1 ⟨wv,rfl,hwv,hb1⟩;dsimp only;have HB1:=hd_ (z0r HA.out hb1);obtain⟨Aw,cw,rfl,-⟩:=id hwv;have HWV:=hd_ hwv;clear hb1 hwv d0 d1 HWN;go_wp2_with fail;refine (HHC.out _ HB1.out).mono ?_;rintro e w2 ⟨rfl,hb2⟩;dsimp only;have HB2:=hd_ (z0r HB1.out hb2);by_cases hE:z4g hs=0
 rotate_left
 ·have HPC:Hid (zkv hs (zff hs ws op dt)=350):=hd_ (if_neg hE);have q0:(z4g hs != 0)=true:=by simpa using hE
  generalize z4g hs=cE at q0 ⊢;clear hE hb2 HHC;go_wp2_with fail;go_ret2;exact zkw.bad HPC.out (by decide) HB2.out
 obtain⟨hOk,hhl⟩:=zfb.1 hE;have HEZ:=hd_ hE;have HOK:=hd_ hOk;rw[hE];clear hE hOk;have HDF:=hd_ (ziz hs ws (.slice Ah hs.length ch) (.slice Aw ws.length cw) w2 (Row.below HH.out HB2.out) (Row.below HWV.out hb2) (fun x hx=>by have:=zku HOK.out x hx;omega) (fun x hx=>by have:=zku HWOK.out x hx;omega) (by omega))
 clear hb2 HHC;go_wp2_with fail;refine HDF.out.mono ?_;rintro e w3 ⟨pv,rfl,ho3,hb3⟩;dsimp only;have hps:(z6i (hs.length+ws.length) hs ws).map (zfd op dt)=zfe hs ws op dt:=rfl;have hpl:=zks (hs.length+ws.length) hs ws;generalize z6i (hs.length+ws.length) hs ws=ps at ho3 hps hpl;obtain⟨Ap,cp,rfl⟩:=z0o ho3;have HAP:Hid ((Ap=none∧ps.length=0)∨∃ g,w2.heap.size≤g∧g<w3.heap.size∧Ap=some ⟨g,0,none⟩):=hd_ (by
  rcases ho3.2 with⟨e1,e2⟩ | ⟨g,cap,cur,e1,e2,e3,-⟩
  ·injection e1 with e1
   exact .inl ⟨e1,e2⟩
  ·injection e1 with e1
   exact .inr ⟨g,e2,(Array.getElem?_eq_some_iff.1 e3).1,e1⟩)
 have HB3:=hd_ (z0r HB2.out hb3);have HO3:=hd_ ho3;have HPS:=hd_ hps;have HBX:=hd_ hb3;have HS1:=hd_ (zjj op (.slice Ao op.length co) w3 (HOP.out.below HB3.out) (by omega))
 clear ho3 hb3 hps HDF;go_upto_region 7 with fail;rename ∀ a w,Code.wp _ (Code.seq (Code.seq (Code.region 8 _ _) _) _) _ a w→_=>hk7
 have HK7:=hd_ hk7;clear hk7;go_wp2_with fail;refine HS1.out.mono ?_;rintro e w4 ⟨rfl,hs4,hb4⟩;dsimp only;have HB4:=hd_ (z0r HB3.out hb4);have HS4:=hd_ hs4;have HBX4:=hd_ hb4;have HS2:=hd_ (zjj dt (.slice At dt.length ct) w4 (HDT.out.below HB4.out) (by omega))
 clear hs4 hb4 HS1;go_wp2_with fail;refine HS2.out.mono ?_;rintro e w5 ⟨rfl,hs5,hb5⟩;dsimp only;go_wp2_with fail;have hB:w.heap.size≤w2.heap.size:=HB2.out.size;have hl3:w3.heap.size<w4.heap.size:=HS4.out.lt;have hl4:w4.heap.size<w5.heap.size:=hs5.lt;have hl23:w2.heap.size≤w3.heap.size:=HBX.out.size;have hB5:Below w.heap.size w w5:=z0r HB4.out hb5;have hO5:zjf w5 w2.heap.size (.slice Ap ps.length cp) ps:=z0n (z0n HO3.out HBX4.out) hb5;obtain⟨g8,h81,h82,h83,h84⟩:∃ g,w3.heap.size≠g∧w4.heap.size≠g∧w2.heap.size≤g∧(0<ps.length→Ap=some ⟨g,0,none⟩):=by
  rcases HAP.out with⟨-,e⟩ | ⟨g,e1,e2,e3⟩
  ·exact⟨w5.heap.size,by omega,by omega,by omega,fun h=>by omega⟩
  ·exact⟨g,by omega,by omega,e1,fun _=>e3⟩
 obtain⟨gB,hb1,hb2,hb3⟩:∃ g,w2.heap.size≤g∧g<w5.heap.size∧(0<ps.length→Ap=some ⟨g,0,none⟩):=by
  rcases HAP.out with⟨-,e⟩ | ⟨g,e1,e2,e3⟩
  ·exact⟨w2.heap.size,Nat.le_refl _,by omega,fun h=>by omega⟩
  ·exact⟨g,e1,by omega,fun _=>e3⟩
 have hH2:∀ X,Below w2.heap.size w5 X→Below w.heap.size w X:=fun X hX=>hB5.trans (hX.mono hB);have hpz:∀ x∈zel (blB hs (ps.map (zfd op dt))) (ps.map (zfd op dt)),x.path.size≤2000000:=fun x hx=>by
  obtain⟨y,hy,rfl⟩:=List.mem_map.1 hx;rw[zem];rw[HPS.out] at hy;obtain⟨z,hz,rfl⟩:=List.mem_map.1 hy;rcases z6k _ _ _ z hz with⟨h,h1,h2⟩ | ⟨h,h1,h2⟩
  ·have:=(zku HOK.out h h1).1;show z.path.size≤_
   rw[← h2];omega
  ·have:=(zku HWOK.out h h1).1;show z.path.size≤_
   rw[← h2];omega
 have hsp:=(zfj (op:=op) (dt:=dt) HOK.out HWOK.out).1;have hfr:=zkt (op:=op) (dt:=dt) HOK.out HWOK.out;rw[← HPS.out] at hsp hfr;have hlm:(ps.map (zfd op dt)).length=ps.length:=List.length_map _;have hPL:zff hs ws op dt=zel (blB hs (ps.map (zfd op dt))) (ps.map (zfd op dt)):=by unfold zff;rw[← HPS.out]
 refine HK7.out _ _ (plT8 _ (by kernel_rfl) _ w5 w2.heap.size w3.heap.size w4.heap.size g8 cp Ap ps op dt h84 ⟨by rw[List.take_zero,List.drop_zero];exact hO5,z2f.below HS4.out hb5,hs5,Below.refl _ _⟩ h81 h82 h83 (by omega) (by omega) hs (z4y hs (zel (blB hs (ps.map (zfd op dt))) (ps.map (zfd op dt)))) Ah ch (zel (blB hs (ps.map (zfd op dt))) (ps.map (zfd op dt))) (fun X hX hO=>?_) (fun X hX hO=>?_) (fun h X hX=>?_) (fun h X hX hO=>?_) _ _ _ _ _ _ _ _ _ _ _ _ _ _ _ _ _ _ _ _ _ _ _ _ _ _ _ _ _ _ _ _ _ _ _ _ _ _ _ _ _ _ _ _ _ _ _ _ _ _ _ _ _ _ _ _ _ _ _ _ _ _ _ _ _ _ _ _ _ _ _ _ _ _ _ _ _ _ _ _ _ _ _ _ _ _ _ _ _ _ _ _ _)
 ·have hbk:=zkq hs (ps.map (zfd op dt)) Ah Ap ch gB cp w2.heap.size X (fun h=>hb3 (by rw[hlm] at h;exact h)) (Row.below HH.out (hH2 X hX)) (by rw[hlm];exact hO) HOK.out hsp hfr hb1 (by have:=hX.size;omega) (by rw[hlm];omega) (by omega)
  rw[hlm] at hbk;exact hbk
 ·have hS:z4z X (.slice Ap ps.length cp) (zel (blB hs (ps.map (zfd op dt))) (ps.map (zfd op dt))):=Row.of_own hO;exact zje hs _ _ _ X (Row.below HH.out (hH2 X hX)) hS (fun x hx=>by have:=(zku HOK.out x hx).1;omega) hpz (by rw[markL_len,hlm];omega)
 ·exact zkw.bad (by unfold zkv;rw[if_pos HEZ.out,hPL,if_pos h]) (by decide) (hH2 X hX)
 ·exact zkw.good (by unfold zkv;rw[if_pos HEZ.out,hPL,if_neg h]) (hH2 X hX) (by rw[hPL];exact Row.of_own hO)
theorem zky (D:List Rev)(es:List zdd)(m:Int)(hs:List Hav)(op dt:List ByteArray)(dv dr mv hv ov tv:Value)(w:World)(he:Env w)(hR:z45 w dv D)(hE:zdn w mv es)(hl:D.length≤1000000)(h6:∀ r∈D,r.path∈zfm)(hS:zfz es)(hnum:∀ r∈D,1≤r.num)(hf:zfp (zdy es))
  (hH:z4b w hv hs) (hOk:zf6 hs) (hhl:hs.length≤100) (hop:Strs w ov op) (hdt:Strs w tv dt) (hopl:op.length≤1000) (hdtl:dt.length≤1000):
  Calls prog 12 #[.agg #[dv,dr],mv,.int .i64 m,hv,ov,tv] w (zkr w (zff hs (zfr D (zdy es) m) op dt)):=
 (zkx D es m hs op dt dv dr mv hv ov tv w he hR hE hl h6 hS hnum hf hH (fun x hx=>by have:=zku hOk x hx;omega) hop hdt hopl hdtl).mono fun e w' h=>by
  have hwl:(zfr D (zdy es) m).length≤6:=zfw;have hc:zkv hs (zff hs (zfr D (zdy es) m) op dt)=0:=by
   unfold zkv;rw[if_pos (zfb.2 ⟨hOk,by omega⟩),if_neg]
   have h1:=zjc hs (zff hs (zfr D (zdy es) m) op dt);have h2:(zff hs (zfr D (zdy es) m) op dt).length≤hs.length+(zfr D (zdy es) m).length:=by
    unfold zff zfe;rw[markL_len,List.length_map];exact zks _ _ _
   omega
  obtain⟨hb,v,e1,hv⟩:=h;rw[hc] at e1 hv;rw[if_pos rfl] at hv;exact⟨v,e1,hv,hb⟩
structure zmd (D:List Rev)(n:Nat):Prop where
 len:D.length≤n
 six:∀ r∈D,r.path∈zfm
 num:∀ p (i:Nat) (h:i<(zgw D p).length),(zgw D p)[i].num=(i:Int)+1
theorem dp_nil:zmd [] 0:=⟨Nat.le_refl _,(fun r h=>by cases h),fun p i h=>by simp [zgw] at h⟩
theorem zme {D:List Rev}{n:Nat}(h:zmd D n)(p:ByteArray):(zeh (zgz D p)).num=((zgw D p).length:Int):=by
 unfold zgz zeh;rcases Nat.eq_zero_or_pos (zgw D p).length with h0 | h0
 ·rw[List.eq_nil_of_length_eq_zero h0];rfl
 ·rw[List.getLast?_eq_getElem?,List.getElem?_eq_getElem (by omega),Option.getD_some,h.num p _ (by omega)]
  omega
theorem zmf {D:List Rev}{n:Nat}(h:zmd D n):∀ r∈D,1≤r.num:=fun r hr=>by
 obtain⟨i,hi,e⟩:=List.getElem_of_mem (zgx.2 ⟨hr,rfl⟩:r∈zgw D r.path);have:=h.num r.path i hi;rw[e] at this;omega
theorem zmg {p:ByteArray}:∀ {L:List Rev},(L.map (·.path)).Nodup→zgw L p=[]∨∃ r∈L,r.path=p∧zgw L p=[r]
 | [],_=>.inl rfl
 | r :: L,h=>by
  rw[List.map_cons,List.nodup_cons] at h;have e:zgw (r :: L) p=(if r.path=p then [r] else [])++zgw L p:=by
   unfold zgw;by_cases hp:r.path=p
   ·rw[if_pos hp,List.filter_cons_of_pos (by simpa using hp)];rfl
   ·rw[if_neg hp,List.filter_cons_of_neg (by simpa using hp)];rfl
  rw[e];by_cases hp:r.path=p
  ·rw[if_pos hp];have:zgw L p=[]:=by
    cases hl:zgw L p with
    | nil=>rfl
    | cons v l =>
     have hv:v∈zgw L p:=by rw[hl];exact List.mem_cons_self ..
     obtain⟨h1,h2⟩:=zgx.1 hv;exact absurd (List.mem_map.2 ⟨v,h1,h2.trans hp.symm⟩) h.1
   rw[this];exact .inr ⟨r,List.mem_cons_self ..,hp,rfl⟩
  ·rw[if_neg hp];rcases zmg (p:=p) h.2 with h1 | ⟨v,h1,h2,h3⟩
   ·exact .inl h1
   ·exact .inr ⟨v,List.mem_cons_of_mem _ h1,h2,h3⟩
theorem dp_app {D:List Rev}{n:Nat}{es:List Edt}(h:zmd D n)(m:Int)(h6:∀ x∈es,x.path∈zfm)(hn:(es.map (·.path)).Nodup)(hb:∀ x∈es,x.base=(zeh (zgz D x.path)).num):zmd (D++es.map (zi5 m)) (n+es.length):=by
 refine⟨by rw[List.length_append,List.length_map];have:=h.len;omega,fun r hr=>?_,fun p i hi=>?_⟩
 ·rcases List.mem_append.1 hr with hr | hr
  ·exact h.six r hr
  ·obtain⟨x,hx,rfl⟩:=List.mem_map.1 hr;exact h6 x hx
 ·have hl:zgw (es.map (zi5 m)) p=[]∨∃ r∈es.map (zi5 m),r.path=p∧zgw (es.map (zi5 m)) p=[r]:=zmg (by rw[List.map_map];exact hn)
  have e:=zgy D (es.map (zi5 m)) p;rcases hl with hl | ⟨r,hr,hp,hl⟩
  ·rw[hl,List.append_nil] at e;have hi2:i<(zgw D p).length:=by rw[← e];exact hi
   have:=h.num p i hi2;rw[← this];congr 1
   simp only[e]
  ·rw[hl] at e;have hi2:i<(zgw D p).length+1:=by have:=congrArg List.length e;rw[List.length_append,List.length_singleton] at this;omega
   by_cases hlt:i<(zgw D p).length
   ·rw[← h.num p i hlt];congr 1
    simp only[e]
    rw[List.getElem_append_left]
   ·have hie:i=(zgw D p).length:=by omega
    obtain⟨x,hx,rfl⟩:=List.mem_map.1 hr;have hnum:(zi5 m x).num=(i:Int)+1:=by
     show x.base+1=_
     have hp':x.path=p:=hp;rw[hb x hx,hp',zme h,hie]
    rw[← hnum];congr 1
    simp only[e]
    rw[List.getElem_append_right (by omega)]
    simp [hie]
theorem dp_at {D:List Rev}{n:Nat}(h:zmd D n)(p:ByteArray)(m:Int):zeh (z30 D p (fun v=>decide (v.chg≤m)))=rAt D p m∧(z30 D p (fun v=>decide (v.chg≤m))).isSome=decide (0<(rAt D p m).num):=by
 rw[zha,zh9];refine zhb m p (zgw D p) none ?_ (fun v hv=>⟨?_,(zgx.1 hv).2⟩) (fun b hb=>by cases hb)
 ·rw[List.pairwise_iff_getElem];intro i j hi hj hij;rw[h.num p i hi,h.num p j hj];omega
 ·have:=zmf h v (zgx.1 hv).1;omega
def zo0 (w:World)(l:List Hav)(e:Ending)(w':World):Prop:=∃ v,e=.returned v∧w'.ownsRow w.heap.size 96 3 v l.length (l.flatMap Hav.cells)∧Below w.heap.size w w'
theorem zo1 (l:List Hav)(v:Value)(h:Hav)(w:World)(he:Env w)(hH:z4b w v l)(hv:∀ x∈l,z2s x.path=true∧x.path.size≤1000000)(hp:z2s h.path=true)(hz:h.path.size≤1000000)(hl:l.length≤1000000):
  Calls prog 40 #[v,.agg #[.string h.path,.int .i64 h.num,.string h.loc]] w (zo0 w (zlc l h)):=by
 obtain⟨A,c,rfl,-⟩:=id hH;have hA:Below w.heap.size w (w.alloc (.cells #[.string h.path,.int .i64 h.num,.string h.loc] 96)):=(Below.refl _ _).alloc (Nat.le_refl _) _;have hB:=z0l w [.string h.path,.int .i64 h.num,.string h.loc] 96;have HF:=hd_ (zlp l _ h.path _ (he.below hA) (hH.under hA) hv hp hz (by omega))
 have HH:=hd_ hH;have HB:=hd_ hB;have HA:=hd_ hA;obtain⟨hle,hlt⟩:=zld l h.path;have HPUT:Hid (zlc l h=l.take (zlb l h.path).1++h :: l.drop ((zlb l h.path).1+if (zlb l h.path).2 then 1 else 0)):=hd_ rfl;obtain⟨i,hi⟩:∃ i,(zlb l h.path).1=i:=⟨_,rfl⟩;obtain⟨b,hb⟩:∃ b,(zlb l h.path).2=b:=⟨_,rfl⟩;rw[hi,hb] at HF HPUT;rw[hi] at hle hlt;rw[hb] at hlt;have HLT:=hd_ hlt;clear hA he hH hv hp hz hi hb hlt;obtain⟨f0,-,-⟩:=z3s (x:=h) hB;clear hB;go_enter func40,ntmps40;go_upto_region 2 with fail;refine HF.out.mono ?_;rintro e w2 ⟨rfl,hb2⟩;have HB2:=hd_ (HB.out.below hb2 HB.out.lt);have HA2:=hd_ (z0r HA.out hb2);clear hb2 f0 HF;go_upto_region 2 with fail;refine puR2 _ (by kernel_rfl) _ w2 A c w.heap.size i l h (HH.out.under HA2.out) HB2.out hle (by omega) ?_
 intro er et eu ez eA eB eC A' c' w3 HO;have HB3:=hd_ (z0r HA2.out HO.out.1);have hown:w3.ownsRow w.heap.size 96 3 (.slice A' (i+1) c') (i+1) ((l.take i++[h]).flatMap Hav.cells):=z4p HO.out.2 HA2.out.size;have HOWN:=hd_ hown;have hbs:=HB3.out.size;have HFIN:Hid (∀(b':Nat) (v:Value) (n:Nat) (w':World),n=(i+1)+(l.length - b')→b'≤l.length→b'=i+(if b=true then 1 else 0)→w'.ownsRow w.heap.size 96 3 v n ((l.take i++[h]).flatMap Hav.cells++(l.drop b').flatMap Hav.cells)→w'.ownsRow w.heap.size 96 3 v (zlc l h).length ((zlc l h).flatMap Hav.cells)):=hd_ fun b' v n w' hn hb' hbe ho=>by
  rw[hbe] at ho;have e1:zlc l h=(l.take i++[h])++l.drop (i+if b=true then 1 else 0):=by rw[HPUT.out];simp
  rw[e1,List.flatMap_append];have e2:((l.take i++[h])++l.drop (i+if b=true then 1 else 0)).length=n:=by
   rw[hn,hbe] at *;simp only[List.length_append,List.length_take,List.length_singleton,List.length_drop]
   omega
  rw[e2];exact ho
 clear HO hown;cases b
 ·obtain⟨Af,cf,hsl,hrw⟩:=zlr (P:=prog) (w:=w3) underlying28 zis (HH.out.under HB3.out) hle;have HR:Hid (Row w3 3 (.slice Af (l.length - i) cf) (l.length - i) ((l.drop i).flatMap Hav.cells)):=hd_ (by rw[← zlu];exact hrw w3 (HH.out.under HB3.out))
  clear hrw;have hol:=HOWN.out;have HDO:Hid (∀ v∈(l.drop i).flatMap Hav.cells,v.oneCell'=true):=hd_ (zls _);go_upto_region 5 with fail;go_wp2_with (at_builtin;refine z0j (base:=w.heap.size) rfl rfl z54 HOWN.out rfl HR.out rfl HDO.out (by omega) (by unfold maxLen;omega) hbs ?_;intro A6 c6 w6 hO6 hG6 hw6)
  have hX6:Below w.heap.size w w6:=HB3.out.grown hG6 hbs (fun k e=>(HOWN.out.lt k e).1);go_ret;exact⟨_,rfl,HFIN.out i _ _ _ rfl hle (by simp) hO6,hX6⟩
 ·have hlt:=HLT.out rfl;have hw1:IntKind.i64.wrap ((i:Int)+1)=((i+1:Nat):Int):=by rw[IntKind.wrap_i64];omega
  obtain⟨Af,cf,hsl,hrw⟩:=zlr (P:=prog) (w:=w3) underlying28 zis (HH.out.under HB3.out) (show i+1≤l.length from hlt);have hsl2:∀ X,(Instr.sliceAt 28 (.slice A l.length c) (some (.int .i64 ((i:Int)+1))) none none).run prog X=.ok (.slice Af (l.length - (i+1)) cf) X:=fun X=>hsl X;have hw2:IntKind.i64.wrap ((i:Int)+1)=(i:Int)+1:=by rw[IntKind.wrap_i64];omega
  clear hw1 hsl;have HR:Hid (Row w3 3 (.slice Af (l.length - (i+1)) cf) (l.length - (i+1)) ((l.drop (i+1)).flatMap Hav.cells)):=hd_ (by rw[← zlu];exact hrw w3 (HH.out.under HB3.out))
  clear hrw;have HDO:Hid (∀ v∈(l.drop (i+1)).flatMap Hav.cells,v.oneCell'=true):=hd_ (zls _);go_upto_region 5 with fail;go_wp2_with (at_builtin;refine z0j (base:=w.heap.size) rfl rfl z54 HOWN.out rfl HR.out rfl HDO.out (by omega) (by unfold maxLen;omega) hbs ?_;intro A6 c6 w6 hO6 hG6 hw6)
  have hX6:Below w.heap.size w w6:=HB3.out.grown hG6 hbs (fun k e=>(HOWN.out.lt k e).1);go_ret;exact⟨_,rfl,HFIN.out (i+1) _ _ _ rfl hlt (by simp) hO6,hX6⟩
