/- A part. -/
import Derived.Test.YtijghobkkdbhnaaGreatDoorMgw44
import Derived.Test.YtijghobkkdbhnaaGreatDoorMgw42
import Derived.Test.YtijghobkkdbhnaaGreatDoorMgw45
set_option linter.unusedVariables false
set_option linter.unusedSimpArgs false
set_option maxHeartbeats 8000000
set_option maxRecDepth 100000
namespace Go.Proofs.YtijghobkkdbhnaaGreatDoor
open Go.Proofs.Tryz
open Go.RowKit
structure Sc (X:World)(D:List Rev)(es:List zdd)(ch:Int)(hs:List Hav)(op dt:List ByteArray)(dv dr mv hv ov tv:Value):Prop where
 at_:zp2 X D es hs op dt dv mv hv ov tv
 env:Env X
 ok:PlOk D es
 hv:zf6 hs
 hl:hs.length≤6
 h6:∀ x∈hs,x.path∈zfm
 opl:op.length≤1000
 dtl:dt.length≤1000
 top:0≤zl3 D∧zl3 D≤100
section
variable {X X' : World} {D : List Rev} {k : Nat} {es : List zdd} {ch : Int} {hs : List Hav} {op dt : List ByteArray} {dv dr mv hv ov tv : Value}
theorem sc_of (h:ScOk D k es ch hs op dt)(ha:zp2 X D es hs op dt dv mv hv ov tv)(he:Env X):Sc X D es ch hs op dt dv dr mv hv ov tv:=
 ⟨ha,he,plOk_of h.dp (by omega) h.k8 h.es,h.hv,h.hl,h.h6,by have:=h.opl;omega,by have:=h.dtl;omega,zp3 h.chg⟩
theorem Sc.under (h:Sc X D es ch hs op dt dv dr mv hv ov tv)(hb:Below X.heap.size X X'):Sc X' D es ch hs op dt dv dr mv hv ov tv:=
 ⟨h.at_.below hb,h.env.below hb,h.ok,h.hv,h.hl,h.h6,h.opl,h.dtl,h.top⟩
theorem Sc.wl (h:Sc X D es ch hs op dt dv dr mv hv ov tv){m:Int}:(zfr D (zdy es) m).length≤100:=by
 have:(zfr D (zdy es) m).length≤6:=zfw;omega
theorem Sc.plan (h:Sc X D es ch hs op dt dv dr mv hv ov tv)(m:Int)(hs':List Hav)(op' dt':List ByteArray)(hv' ov' tv':Value)(h1:zf6 hs')(h2:hs'.length≤6)(h3:z4b X hv' hs')(h4:Strs X ov' op')(h5:Strs X tv' dt')(h6:op'.length≤1000)(h7:dt'.length≤1000):
  Calls prog 12 #[.agg #[dv,dr],mv,.int .i64 m,hv',ov',tv'] X (zkr X (zff hs' (zfr D (zdy es) m) op' dt')):=
 zml h.ok m h.env h.at_.revs h.at_.ents h3 h1 (by omega) h4 h5 h6 h7
theorem Sc.wanted (h:Sc X D es ch hs op dt dv dr mv hv ov tv)(m:Int):Calls prog 8 #[.agg #[dv,dr],mv,.int .i64 m] X (zg6 X (zfr D (zdy es) m)):=
 zmk h.ok m h.env h.at_.revs h.at_.ents
end
theorem zp6 {X:World}{g:Nat}{ch:Int}{dv dr mv hv ov tv:Value}(h:Blk X g 31 [dv,dr,mv,.int .i64 ch,hv,ov,tv]):X.cell? ⟨g,0,none⟩=some dv∧X.cell? ⟨g,1,none⟩=some dr∧X.cell? ⟨g,2,none⟩=some mv∧X.cell? ⟨g,3,none⟩=some (.int .i64 ch)∧X.cell? ⟨g,4,none⟩=some hv∧X.cell? ⟨g,5,none⟩=some ov∧X.cell? ⟨g,6,none⟩=some tv:=
 ⟨h.cell 0,h.cell 1,h.cell 2,h.cell 3,h.cell 4,h.cell 5,h.cell 6⟩
theorem Sc.planX {X:World}{D:List Rev}{es:List zdd}{ch:Int}{hs:List Hav}{op dt:List ByteArray}{dv dr mv hv ov tv:Value}(h:Sc X D es ch hs op dt dv dr mv hv ov tv)(m:Int)(l:List Hav)(lv:Value)(hL:z4b X lv l)(hz:∀ x∈l,x.path.size≤2000000∧x.loc.size≤2000000):
  Calls prog 12 #[.agg #[dv,dr],mv,.int .i64 m,lv,ov,tv] X (zkw X l (zff l (zfr D (zdy es) m) op dt)):=
 zkx D es m l op dt dv dr mv lv ov tv X h.env h.at_.revs h.at_.ents (by have:=h.ok.len;omega) h.ok.six h.ok.shw h.ok.num h.ok.fwd hL hz h.at_.opn h.at_.drt h.opl h.dtl
theorem Sc.rplan {X:World}{D:List Rev}{es:List zdd}{ch:Int}{hs:List Hav}{op dt:List ByteArray}{dv dr mv hv ov tv:Value}(h:Sc X D es ch hs op dt dv dr mv hv ov tv){n:Nat}(hD:zmd D n)(hM:znw es)(m:Int)(l:List Hav)(lv:Value)(hL:z4b X lv l)(hz:∀ x∈l,x.path.size≤2000000∧x.loc.size≤2000000):
  Calls prog 13 #[.agg #[dv,dr],mv,.int .i64 m,lv,ov,tv] X (zqm X l (zff l (zfr D (zdy es) m) op dt)):=
 zqn D n es m l op dt dv dr mv lv ov tv X h.env h.at_.revs h.at_.ents hD h.ok.len hM h.ok.shw h.ok.fwd h.ok.num hL hz h.at_.opn h.at_.drt h.opl h.dtl
theorem zqo (L:List Int)(A:Option Addr)(c:Nat)(l:List Hav)(A1:Option Addr)(c1:Nat)(w:World)(he:Env w)(hL:Row w 1 (.slice A L.length c) L.length (L.map fun(n:Int)=>.int .i64 n))(hA:∀ ad,A=some ad→ad.block<w.heap.size)
  (hl1:z4b w (.slice A1 l.length c1) l) (hn1:l.length * 4≤1048576) (hs1:∀ x∈l,x.path.size≤1048576∧x.loc.size≤1048576):
  Calls prog 4 #[.slice A L.length c,.slice A1 l.length c1] w fun e w'=>e=.returned (.bool true)∧Below w.heap.size w w':=by
 have HMD:=hd_ (zp5 L A c w he hL hA);have HKN:=hd_ (fun X (hX:Env X)=>zmt X hX);have HL1:=hd_ hl1;have HS1:Hid (∀ x∈l,x.path.size≤2000000∧x.loc.size≤2000000):=hd_ fun x hx=>by have:=hs1 x hx;omega
 clear he hL hA hl1 hs1;go_enter func4,ntmps4;go_wp2_with fail;refine HMD.out.mono ?_;rintro e w1 ⟨dv,dr,mv,hv,ov,tv,U,g,D,k,es,ch,hs,op,dt,rfl,hsc,hat,-,-,-,hb1,hen,Aq,cq,rfl⟩;dsimp only;obtain⟨Ad,cd,rfl,-⟩:=id hat.revs;obtain⟨Am,cm,rfl,-⟩:=id hat.ents.1;obtain⟨Ah,chh,rfl,-⟩:=id hat.havs;obtain⟨Ao,co,rfl,-⟩:=id hat.opn;obtain⟨At,ct,rfl,-⟩:=id hat.drt;have HS:=hd_ (sc_of (dr:=.slice Aq 0 cq) hsc hat hen);have HDP:=hd_ (And.intro hsc.dp (znx hsc.k8 hsc.es));clear HMD hsc hat hen;go_upto_region 2 with fail;have HB2:=hd_ (zck hb1 (.cells #[.slice Ad D.length cd,.slice Aq 0 cq,.slice Am es.length cm,.int .i64 ch,.slice Ah hs.length chh,.slice Ao op.length co,.slice At dt.length ct] 31));have HS2:=hd_ (HS.out.under ((Below.refl w1.heap.size w1).alloc (Nat.le_refl _) (.cells #[.slice Ad D.length cd,.slice Aq 0 cq,.slice Am es.length cm,.int .i64 ch,.slice Ah hs.length chh,.slice Ao op.length co,.slice At dt.length ct] 31)));have HX2:=hd_ (z0l w1 [.slice Ad D.length cd,.slice Aq 0 cq,.slice Am es.length cm,.int .i64 ch,.slice Ah hs.length chh,.slice Ao op.length co,.slice At dt.length ct] 31);clear HS hb1;generalize w1.alloc (.cells #[.slice Ad D.length cd,.slice Aq 0 cq,.slice Am es.length cm,.int .i64 ch,.slice Ah hs.length chh,.slice Ao op.length co,.slice At dt.length ct] 31)=W2 at HB2 HS2 HX2 ⊢;generalize w1.heap.size=g3 at HX2 ⊢;obtain⟨x0,x1,x2,x3,x4,x5,x6⟩:=zp6 HX2.out;have hhz:∀ x∈hs,x.path.size≤2000000∧x.loc.size≤2000000:=fun x hx=>by have:=zku HS2.out.hv x hx;omega
 have HHZ:=hd_ hhz;clear hhz;have HC:=hd_ (HS2.out.planX ch hs _ HS2.out.at_.havs HHZ.out);go_wp2_with fail;refine HC.out.mono ?_;rintro e w3 ⟨hb3,xv,rfl,hx3⟩;dsimp only;have HB3:=hd_ (z0r HB2.out hb3);have HS3:=hd_ (HS2.out.under hb3);have HX3:=hd_ (HX2.out.below hb3 HX2.out.lt);have HP3:=hd_ hx3;clear hb3 HB2 HS2 HX2 HC hx3 x0 x1 x2 x3 x4 x5 x6;obtain⟨x0,x1,x2,x3,x4,x5,x6⟩:=zp6 HX3.out;have HC:=hd_ (HS3.out.rplan HDP.out.1 HDP.out.2 ch hs _ HS3.out.at_.havs HHZ.out);go_wp2_with fail;refine HC.out.mono ?_;rintro e w4 ⟨hb4,yv,rfl,hy4⟩;dsimp only;have HB4:=hd_ (z0r HB3.out hb4);have HS4:=hd_ (HS3.out.under hb4);have HX4:=hd_ (HX3.out.below hb4 HX3.out.lt);have HP4:=hd_ (HP3.out.below hb4);have HQ4:Hid (z4z w4 yv (if zkv hs (zff hs (zfr D (zdy es) ch) op dt)=0 then zff hs (zfr D (zdy es) ch) op dt else [])):=hd_ (Row.of_own hy4);clear hb4 HB3 HS3 HX3 HP3 HC hy4 x0 x1 x2 x3 x4 x5 x6;generalize (if zkv hs (zff hs (zfr D (zdy es) ch) op dt)=0 then zff hs (zfr D (zdy es) ch) op dt else [])=PA at HP4 HQ4;generalize zkv hs (zff hs (zfr D (zdy es) ch) op dt)=ca;obtain⟨x0,x1,x2,x3,x4,x5,x6⟩:=zp6 HX4.out;have HC:=hd_ (HS4.out.planX ch l _ (Row.below HL1.out HB4.out) HS1.out);go_wp2_with fail;refine HC.out.mono ?_;rintro e w5 ⟨hb5,uv,rfl,hx5⟩;dsimp only;have HB5:=hd_ (z0r HB4.out hb5);have HS5:=hd_ (HS4.out.under hb5);have HX5:=hd_ (HX4.out.below hb5 HX4.out.lt);have HP5:=hd_ (And.intro (HP4.out.below hb5) (HQ4.out.below hb5));have HU5:=hd_ hx5;clear hb5 HB4 HS4 HX4 HP4 HQ4 HC hx5 x0 x1 x2 x3 x4 x5 x6;obtain⟨x0,x1,x2,x3,x4,x5,x6⟩:=zp6 HX5.out;have HC:=hd_ (HS5.out.rplan HDP.out.1 HDP.out.2 ch l _ (Row.below HL1.out HB5.out) HS1.out);go_wp2_with fail;refine HC.out.mono ?_;rintro e w6 ⟨hb6,vv,rfl,hy6⟩;dsimp only;have HB6:=hd_ (z0r HB5.out hb6);have HS6:=hd_ (HS5.out.under hb6);have HP6:=hd_ (And.intro (HP5.out.1.below hb6) (HP5.out.2.below hb6));have HU6:Hid (z4z w6 uv _∧z4z w6 vv (if zkv l (zff l (zfr D (zdy es) ch) op dt)=0 then zff l (zfr D (zdy es) ch) op dt else [])):=hd_ ⟨HU5.out.below hb6,Row.of_own hy6⟩
 clear hb6 HB5 HS5 HX5 HP5 HU5 HC hy6 x0 x1 x2 x3 x4 x5 x6;generalize (if zkv l (zff l (zfr D (zdy es) ch) op dt)=0 then zff l (zfr D (zdy es) ch) op dt else [])=PB at HU6;generalize zkv l (zff l (zfr D (zdy es) ch) op dt)=cb;have q1:(ca == ca)=true:=beq_self_eq_true ca;have q2:(cb == cb)=true:=beq_self_eq_true cb;have HC:=hd_ (HKN.out w6 HS6.out.env);go_wp2_with fail;refine HC.out.mono ?_;rintro e w7 ⟨rfl,hb7⟩;have HB7:=hd_ (z0r HB6.out hb7);have HP7:=hd_ (And.intro (HP6.out.1.below hb7) (HP6.out.2.below hb7));have HU7:=hd_ (And.intro (HU6.out.1.below hb7) (HU6.out.2.below hb7));clear hb7 HB6 HS6 HP6 HU6 HC;have HC:=hd_ (zms PA xv yv w7 HP7.out.1 HP7.out.2);go_wp2_with fail;refine HC.out.mono ?_;rintro e w8 ⟨rfl,hb8⟩;have HB8:=hd_ (z0r HB7.out hb8);have HU8:=hd_ (And.intro (HU7.out.1.below hb8) (HU7.out.2.below hb8));clear hb8 HB7 HP7 HU7 HC;have HC:=hd_ (zms PB uv vv w8 HU8.out.1 HU8.out.2);go_wp2_with fail;refine HC.out.mono ?_;rintro e w9 ⟨rfl,hb9⟩;have HB9:=hd_ (z0r HB8.out hb9);clear hb9 HC;go_wp2_with fail;go_ret;exact⟨rfl,HB9.out⟩
end Go.Proofs.YtijghobkkdbhnaaGreatDoor
/- SyncplanPlans, the second form: for every input whose bulk is at most 1048576 the statement returns true and leaves its arguments as they were. -/
namespace Go.Proofs.YtijghobkkdbhnaaGreatDoor.syncplanPlansRow
open Go.Proofs.Tryz
open Go.ChangeShapes Go.WideShapes Go.ChangeAt Go.RowKit Go.Proofs.YtijghobkkdbhnaaGreatDoor.cardBase
open Go.ChangeMaps (open_string shut_string)
theorem contract (H:Type)(enc:TypeId×Value→H)(W:World)(base:Nat)(args:Array Value)(ds gs:List (DataW H))(before:List MemPlace)
  (hval0:∀(j:Nat) t v,Tryz.f4.params[j]? = some t→args[j]? = some v→Value.okWide prog W .any base t v)
  (hW:DataW.Whole enc prog Tryz.f4.params.toList Rows.syncplanPlansSpec.vars false W args.toList ds gs before) (ts:List TypeId) (hwt:(DataW.weightsEach prog (Tryz.f4.params.toList++ts) (ds++gs)).all (·≤reachBytes)=true) (hsh:W.ShapedOpen prog) (hk:Rows.uptoSmall H (ds++gs)=true):
  Calls prog 4 args W fun e W'=>∃ v,e=.returned v∧Rows.syncplanPlansSpec.post enc prog Tryz.f4 false true false false W args v W':=by
 have he:Env W:=env_of hsh;have hW':=hW;have hval:∀(j:Nat) t v,Tryz.f4.params[j]? = some t→args[j]? = some v→Value.okWide prog W .any base t v:=hval0;obtain⟨p,q,hA0,hV,rfl,hfz,hnd⟩:=hW;have hA:DataW.TrodAll enc prog W 0 (fun _=>true) true Tryz.f4.params.toList args.toList ds p:=hA0;rw[Tryz.params4] at hA hval;obtain⟨v0,vs0,d0,ds0,p0,q0,hargs,rfl,rfl,h0,r0⟩:=trodAll_cons hA;obtain⟨v1,vs1,d1,ds1,p1,q1,rfl,rfl,rfl,h1,r1⟩:=trodAll_cons r0;obtain⟨rfl,rfl,rfl⟩:=trodAll_nil r1;obtain rfl:args=#[v0,v1]:=by cases args;simp_all
 obtain⟨rfl,rfl⟩:=trodVars_none hV;have k0:=h0;have lt0:∀ x∈p0,x.block<W.heap.size:=by obtain⟨m,hm⟩:=k0;exact DataW.trod_lt m _ _ _ hm
 obtain⟨l0,A0,c0,rfl,b0,z0⟩:=zqq underlying22 underlying3 (by kernel_rfl) (hval 0 22 v0 rfl rfl) h0
 have k1:=h1;have lt1:∀ x∈p1,x.block<W.heap.size:=by obtain⟨m,hm⟩:=k1;exact DataW.trod_lt m _ _ _ hm
 have hbk:Rows.uptoBulk d1≤1048576:=by
  simp only[Rows.uptoSmall,decide_eq_true_eq,List.cons_append,List.nil_append,List.append_nil,Rows.uptoBulkAll] at hk
  omega
 obtain⟨l1,A1,c1,rfl,b1,n1,s1⟩:=upto.havs_arg (hval 1 28 v1 rfl rfl) h1 hbk;clear hA0 hval0;refine (zqo l0 A0 c0 l1 A1 c1 W he b0 z0 b1 n1 s1).mono fun e W' ⟨he,bel⟩=>?_;subst he;exact⟨_,rfl,_,_,_,[],_,[],hW',trodAll_mk1 (shut_bool underlying4 _),(trodAll_cons_mk (Below.trod laidOut (by kernel_rfl) (of_decide_eq_true (by kernel_rfl)) k0 bel lt0) (trodAll_cons_mk (Below.trod laidOut (by kernel_rfl) (of_decide_eq_true (by kernel_rfl)) k1 bel lt1) trodAll_mk0)),rfl,bel.frame _,fun h=>by cases h⟩
theorem laid_met (os:Os):laidMet prog Rows.syncplanPlansUptoRow.laid ((laidWorld os).forCall (fun _ _=>0) ⟨#[],#[.slice none 0 0,.slice none 0 0],[]⟩).memory:=
 laidMet_of_run' 8 (by kernel_rfl) (by kernel_rfl)
theorem reads (os:Os){H:Type}(enc:TypeId×Value→H):∃ places,DataW.whole enc prog ((laidWorld os).forCall (fun _ _=>0) ⟨#[],#[.slice none 0 0,.slice none 0 0],[]⟩).memory Tryz.f4.params.toList Rows.syncplanPlansSpec.vars false (#[.slice none 0 0,.slice none 0 0]:Array Value).toList 8=some ([.nil,.nil],[],places):=
 ⟨[],by kernel_rfl⟩
theorem lifted (os:Os)(started:os.Started)(H:Type)(enc:TypeId×Value→H)(F:Stop.Interp):
  ReturnsInHanded {} Tryz.checked os 4 .any ((Rows.OpenSpec.upto Rows.syncplanPlansSpec).preRow enc prog Tryz.f4 Rows.syncplanPlansUptoRow.domain false Rows.syncplanPlansUptoRow.laid) (((Rows.OpenSpec.upto Rows.syncplanPlansSpec).at F).post enc prog Tryz.f4 false true false false):=by
 obtain⟨places,hx⟩:=reads os enc;refine returnsInHanded_of_row (C:=Tryz.checked) (s:=Rows.OpenSpec.upto Rows.syncplanPlansSpec) own started (by kernel_rfl) func4
  (witness_row_at (enc:=enc) (C:=Tryz.checked) false (laidWorld os) #[.slice none 0 0,.slice none 0 0] rfl (by kernel_rfl) (by kernel_rfl) (by kernel_rfl)
   (OpenSpec.preRow_of_cond 8 hx (by kernel_rfl) (fun k hk=>by cases hk;kernel_rfl) (by kernel_rfl) (laid_met os))) ?_
 intro W base args ds gs before hval hW _ hcond hwt _ hsh _;exact contract H enc W base args ds gs before hval hW _ hwt hsh (hcond _ rfl)
end Go.Proofs.YtijghobkkdbhnaaGreatDoor.syncplanPlansRow
/- SyncplanPlans, the second form: for every input whose bulk is at most 1048576 the statement returns true and leaves its arguments as they were. -/
namespace Go.Proofs.YtijghobkkdbhnaaGreatDoor.syncplanPlansRow
open Go.Proofs.Tryz
open Go.ChangeShapes Go.WideShapes Go.ChangeAt Go.RowKit Go.Proofs.YtijghobkkdbhnaaGreatDoor.cardBase
open Go.ChangeMaps (open_string shut_string)
theorem said:Rows.SyncplanPlansUptoSaid:=
 OpenClaim.holds_of_cond 4 Tryz.f4 rfl rfl rfl rfl rfl rfl rfl ⟨rfl,rfl,rfl,rfl,rfl⟩ rfl rfl rfl rfl rfl (by as_aux_lemma=>kernel_rfl) func4 (by
   unfold joinedFacts;simp only[Bool.and_eq_true]
   repeat' apply And.intro
   all_goals (as_aux_lemma=>kernel_rfl))
  (of_decide_eq_true (by as_aux_lemma=>kernel_rfl)) (by unfold Func.isWrapper;first | (rw[if_pos (by decide +kernel)];kernel_rfl) | (rw[if_neg (by decide +kernel)];exact⟨rfl,rfl⟩))
  (fun os started H enc _ F=>by rw[OpenClaim.pre_eq_preRow];exact lifted os started H enc F)
end Go.Proofs.YtijghobkkdbhnaaGreatDoor.syncplanPlansRow
