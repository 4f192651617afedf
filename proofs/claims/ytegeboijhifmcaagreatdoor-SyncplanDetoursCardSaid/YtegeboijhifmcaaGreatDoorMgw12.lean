/- A part of the proof. -/
import Derived.Test.YtegeboijhifmcaaGreatDoorMgw10
import Derived.Test.YtegeboijhifmcaaGreatDoorMgw11
import Derived.Maps.OwnSet
set_option linter.unusedVariables false
set_option linter.unusedSimpArgs false
set_option maxHeartbeats 4000000
set_option maxRecDepth 100000
namespace Go.Proofs.YtegeboijhifmcaaGreatDoor
open Go.RowKit
def zk4 (hs:List Hav)(p:ByteArray):ByteArray:=((z6d hs p).map Hav.loc).getD z2l
section
variable {hs ws : List Hav} {op dt : List ByteArray}
theorem zk5 {l:List Hav}{p:ByteArray}{a:Hav}(h:z6d l p=some a):a∈l∧a.path=p:=z61 h
theorem zpw {l:List Hav}(h:zf0 l){a:Hav}(ha:a∈l):z6d l a.path=some a:=z65 h.srt ha
theorem zk6 {b:ByteArray→Bool}{x:Syn}(h:z3o (zef b x).kind=false):b x.path=false∧z3o x.kind=false:=by
 rw[zej] at h;cases e:b x.path <;> cases e2:z3o x.kind <;> simp_all
theorem zk7 (h1:zf0 hs)(h2:zf0 ws){x:Syn}(hx:x∈zf9 hs ws op dt)(hd:z3o x.kind=false):
  ∃ y,z6i (z6d hs x.path) (z6d ws x.path)=some y∧y.path=x.path∧x=zf7 op dt y∧x∈zf8 hs ws op dt∧blB hs (zf8 hs ws op dt) x.path=false:=by
 obtain⟨y,e1,e2,e3⟩:=zfe h1 h2 hx;rw[e2] at hd;obtain⟨d1,d2⟩:=zk6 hd;have ek:(zf7 op dt y).path=x.path:=e3;rw[ek] at d1;have ex:x=zf7 op dt y:=by
  rw[e2];unfold zef
  rw[if_neg (by rw[ek,d1];decide)]
 refine⟨y,e1,e3,ex,?_,d1⟩;obtain⟨i1,i2⟩:=zfc (op:=op) (dt:=dt) h1 h2;have:=i2 x.path;rw[e1] at this;exact ex ▸ (z61 this).1
theorem zk8 (h1:zf0 hs)(h2:zf0 ws){a:Hav}(ha:a∈z4y hs (zf9 hs ws op dt)):
  (a∈hs∧(z6e (zf9 hs ws op dt) a.path=none∨∃ x,z6e (zf9 hs ws op dt) a.path=some x∧z3o x.kind=true)) ∨
  (a∈ws∧∃ x,x∈zf9 hs ws op dt∧z3o x.kind=false∧x.path=a.path∧x.dst=a.loc∧x.num=a.num):=by
 obtain⟨i1,i2⟩:=zfd (op:=op) (dt:=dt) h1 h2;have vp:∀ x∈zf9 hs ws op dt,z2s x.path=true:=fun x hx=>by
  obtain⟨y,e1,-,e3⟩:=zfe h1 h2 hx;rcases zfb e1 with⟨a,ea,-,-⟩ | ⟨b,-,eb,-⟩ | ⟨a,b,ea,-,-,-⟩
  ·obtain⟨m1,m2⟩:=zk5 ea;rw[← m2];exact h1.valid _ m1
  ·obtain⟨m1,m2⟩:=zk5 eb;rw[← m2];exact h2.valid _ m1
  ·obtain⟨m1,m2⟩:=zk5 ea;rw[← m2];exact h1.valid _ m1
 obtain⟨r1,-,r3⟩:=zez _ hs (zf9 hs ws op dt) (Nat.le_refl _) h1.srt i1 h1.valid vp;have hg:z6d (z4y hs (zf9 hs ws op dt)) a.path=some a:=z65 r1 ha;rw[r3] at hg;cases hs2:z6e (zf9 hs ws op dt) a.path with
 | none=>rw[hs2] at hg;exact .inl ⟨(zk5 hg).1,.inl rfl⟩
 | some x =>
  rw[hs2] at hg;cases hst:z3o x.kind with
  | true =>
   simp only[zeo,hst,if_true] at hg
   exact .inl ⟨(zk5 hg).1,.inr ⟨x,rfl,hst⟩⟩
  | false =>
   simp only[zeo,hst,Bool.false_eq_true,if_false] at hg
   obtain⟨hx,ep⟩:=z61 hs2;by_cases hd:x.dst=z2l
   ·rw[if_pos hd] at hg;cases hg
   ·rw[if_neg hd] at hg;have ea:=Option.some.inj hg;obtain⟨y,e1,e3,ex,-,-⟩:=zk7 h1 h2 hx hst;have hw:∃ b,z6d ws x.path=some b∧b.path=x.path∧b.num=x.num∧b.loc=x.dst:=by
     rcases zfb e1 with⟨c,-,-,rfl⟩ | ⟨b,-,eb,rfl⟩ | ⟨c,b,-,eb,-,rfl⟩
     ·exact absurd (by rw[ex];rfl) hd
     ·exact⟨b,eb,(zk5 eb).2,by rw[ex];rfl,by rw[ex];rfl⟩
     ·exact⟨b,eb,(zk5 eb).2,by rw[ex];rfl,by rw[ex];rfl⟩
    obtain⟨b,eb,b1,b2,b3⟩:=hw;have hab:a=b:=by
     rw[← ea];cases b
     simp only at b1 b2 b3
     rw[b1,b2,b3]
    refine .inr ⟨hab ▸ (zk5 eb).1,x,hx,hst,by rw[hab,b1],by rw[hab,b3],by rw[hab,b2]⟩
theorem zpx (h1:zf0 hs)(h2:zf0 ws):z6b (z4y hs (zf9 hs ws op dt))∧(∀ p,z6d (z4y hs (zf9 hs ws op dt)) p=zeo (z6d hs p) (z6e (zf9 hs ws op dt) p)):=by
 obtain⟨i1,i2⟩:=zfd (op:=op) (dt:=dt) h1 h2;have vp:∀ x∈zf9 hs ws op dt,z2s x.path=true:=fun x hx=>by
  obtain⟨y,e1,-,e3⟩:=zfe h1 h2 hx;rcases zfb e1 with⟨a,ea,-,-⟩ | ⟨b,-,eb,-⟩ | ⟨a,b,ea,-,-,-⟩
  ·obtain⟨m1,m2⟩:=zk5 ea;rw[← m2];exact h1.valid _ m1
  ·obtain⟨m1,m2⟩:=zk5 eb;rw[← m2];exact h2.valid _ m1
  ·obtain⟨m1,m2⟩:=zk5 ea;rw[← m2];exact h1.valid _ m1
 obtain⟨r1,-,r3⟩:=zez _ hs (zf9 hs ws op dt) (Nat.le_refl _) h1.srt i1 h1.valid vp;exact⟨r1,r3⟩
theorem zk9 (h1:zf0 hs)(h2:zf0 ws){x:Syn}(hx:x∈zf9 hs ws op dt)(hd:z3o x.kind=false)(hne:x.dst≠z2l){h:Hav}(hh:h∈hs)(hl:h.loc=x.dst)
  (hst:z6e (zf9 hs ws op dt) h.path=none∨∃ y,z6e (zf9 hs ws op dt) h.path=some y∧z3o y.kind=true):h.path=x.path:=by
 refine Classical.byContradiction fun hp=>?_;obtain⟨y,e1,e3,ex,m0,b0⟩:=zk7 h1 h2 hx hd;have hS:zem (zf8 hs ws op dt) (blB hs (zf8 hs ws op dt)) h.path:=by
  have e:z6e (zf9 hs ws op dt) h.path=(z6e (zf8 hs ws op dt) h.path).map (zef (blB hs (zf8 hs ws op dt))):=zek _ _ _;rcases hst with hn | ⟨z,hz,hzs⟩
  ·rw[e,Option.map_eq_none_iff] at hn;exact .inl hn
  ·rw[e,Option.map_eq_some_iff] at hz;obtain⟨u,hu,rfl⟩:=hz;rw[zej,Bool.or_eq_true] at hzs;have hup:=(z61 hu).2;rw[hup] at hzs;exact .inr ⟨u,hu,hzs.symm⟩
 have:=zen (fun p hp=>zee.1 hp) m0 hd hne hh hl hp hS;rw[zee.2 this] at b0;cases b0
theorem zpy (h1:zf0 hs)(h2:zf0 ws):zf0 (z4y hs (zf9 hs ws op dt)):=by
 refine⟨(zpx h1 h2).1,fun a ha=>?_,fun a ha b hb e=>?_⟩
 ·rcases zk8 h1 h2 ha with⟨m,-⟩ | ⟨m,-⟩
  ·exact h1.ok a m
  ·exact h2.ok a m
 ·rcases zk8 h1 h2 ha with⟨m1,s1⟩ | ⟨m1,x,hx,sx,px,dx,-⟩
  ·rcases zk8 h1 h2 hb with⟨m2,s2⟩ | ⟨m2,y,hy,sy,py,dy,-⟩
   ·exact h1.loc a m1 b m2 e
   ·rw[← py];exact zk9 h1 h2 hy sy (by rw[dy];exact h2.locNe m2) m1 (by rw[dy,e]) s1
  ·rcases zk8 h1 h2 hb with⟨m2,s2⟩ | ⟨m2,-⟩
   ·rw[← px];exact (zk9 h1 h2 hx sx (by rw[dx];exact h2.locNe m1) m2 (by rw[dx,e]) s2).symm
   ·exact h2.loc a m1 b m2 e
theorem zka (h1:zf0 hs)(h2:zf0 ws){x:Syn}(hx:x∈zf9 hs ws op dt):zik x (zk4 hs x.path)=true:=by
 obtain⟨y,e1,e2,e3⟩:=zfe h1 h2 hx;have hr:=zei (blB hs (zf8 hs ws op dt)) (zf7 op dt y);rw[← e2] at hr;obtain⟨r1,r2,r3⟩:=hr;have hk:z3o x.kind=true∨x.kind=z3p x.frm x.dst:=by
  cases hst:z3o x.kind with
  | true=>exact .inl rfl
  | false =>
   right
   obtain⟨z,z1,-,zx,-,-⟩:=zk7 h1 h2 hx hst;rw[zx] at hst ⊢;show zf6 op dt z=z3p z.frm z.dst
   have hst':z3o (zf6 op dt z)=false:=hst;unfold zf6 at hst' ⊢
   split at hst'
   ·exact absurd hst' (by decide)
   ·rename_i c1
    rw[if_neg c1];split at hst'
    ·exact absurd hst' (by decide)
    ·rename_i c2
     rw[if_neg c2]
 have f1:x.num=y.num:=r1;have f2:x.frm=y.frm:=r2;have f3:x.dst=y.dst:=r3;have key:z3q x.path=true∧x.frm=zk4 hs x.path∧¬(x.frm=z2l∧x.dst=z2l)∧(x.dst=z2l→x.num=0)∧(x.dst≠z2l→1≤x.num∧z3q x.dst=true):=by
  unfold zk4;rcases zfb e1 with⟨a,ea,ew,rfl⟩ | ⟨b,eh,eb,rfl⟩ | ⟨a,b,ea,eb,-,rfl⟩
  ·obtain⟨m,mp⟩:=zk5 ea;have g1:x.frm=a.loc:=f2;have g2:x.dst=z2l:=f3;have g3:x.num=0:=f1;rw[g1,g2,g3,ea];exact⟨mp ▸ (zf1 (h1.ok a m)).1,rfl,fun h=>h1.locNe m h.1,fun _=>rfl,fun h=>absurd rfl h⟩
  ·obtain⟨m,mp⟩:=zk5 eb;have g1:x.frm=z2l:=f2;have g2:x.dst=b.loc:=f3;have g3:x.num=b.num:=f1;rw[g1,g2,g3,eh];exact⟨mp ▸ (zf1 (h2.ok b m)).1,rfl,fun h=>h2.locNe m h.2,fun h=>absurd h (h2.locNe m),fun _=>⟨(zf1 (h2.ok b m)).2.2,(zf1 (h2.ok b m)).2.1⟩⟩
  ·obtain⟨m,mp⟩:=zk5 ea;obtain⟨m2,-⟩:=zk5 eb;have g1:x.frm=a.loc:=f2;have g2:x.dst=b.loc:=f3;have g3:x.num=b.num:=f1;rw[g1,g2,g3,ea];exact⟨mp ▸ (zf1 (h1.ok a m)).1,rfl,fun h=>h1.locNe m h.1,fun h=>absurd h (h2.locNe m2),fun _=>⟨(zf1 (h2.ok b m2)).2.2,(zf1 (h2.ok b m2)).2.1⟩⟩
 obtain⟨k1,k2,k3,k4,k5⟩:=key;unfold zik;rw[k1,← k2];simp only[Bool.true_and,decide_true,Bool.and_eq_true,Bool.or_eq_true,Bool.not_eq_true',Bool.and_eq_false_iff,decide_eq_false_iff_not,beq_iff_eq]
 refine⟨⟨?_,?_⟩,hk⟩
 ·by_cases c:x.frm=z2l
  ·exact .inr fun c2=>k3 ⟨c,c2⟩
  ·exact .inl c
 ·by_cases c:x.dst=z2l
  ·rw[if_pos c];simpa using k4 c
  ·rw[if_neg c];obtain⟨q1,q2⟩:=k5 c;rw[q2];simpa using q1
end
section
variable {hs ws : List Hav} {op dt : List ByteArray}
theorem zpz (h1:zf0 hs)(h2:zf0 ws){x:Syn}(hx:x∈zf8 hs ws op dt):∃ y,z6i (z6d hs x.path) (z6d ws x.path)=some y∧x=zf7 op dt y∧y.path=x.path:=by
 obtain⟨i1,i2⟩:=zfc (op:=op) (dt:=dt) h1 h2;have h':z6e (zf8 hs ws op dt) x.path=some x:=z65 i1 hx;rw[i2,Option.map_eq_some_iff] at h';obtain⟨y,e1,e2⟩:=h';exact⟨y,e1,e2.symm,(show (zf7 op dt y).path=x.path from congrArg Syn.path e2)⟩
theorem zq0 {h w:Option Hav}{y:Syn}(e:z6i h w=some y)(hd:y.dst≠z2l):∃ b,w=some b∧b.path=y.path∧b.loc=y.dst∧b.num=y.num:=by
 rcases zfb e with⟨a,-,-,rfl⟩ | ⟨b,-,eb,rfl⟩ | ⟨a,b,-,eb,-,rfl⟩
 ·exact absurd rfl hd
 ·exact⟨b,eb,rfl,rfl,rfl⟩
 ·exact⟨b,eb,rfl,rfl,rfl⟩
theorem zq1 {h w:Option Hav}:z6i h w=none↔h=w:=by
 cases h with
 | none=>cases w with
  | none=>exact⟨fun _=>rfl,fun _=>rfl⟩
  | some b=>exact⟨fun e=>(by cases e),fun e=>(by cases e)⟩
 | some a=>cases w with
  | none=>exact⟨fun e=>(by cases e),fun e=>(by cases e)⟩
  | some b =>
   rw[zfa];by_cases eq:a=b
   ·rw[if_pos eq];exact⟨fun _=>congrArg some eq,fun _=>rfl⟩
   ·rw[if_neg eq];exact⟨fun e=>(by cases e),fun e=>absurd (Option.some.inj e) eq⟩
theorem zq2 (y:Syn):z3o (zf6 [] [] y)=false:=by
 unfold zf6;rw[if_neg (by simp),if_neg (by simp)]
 exact zpv _ _
theorem bl_none (h1:zf0 hs)(h2:zf0 ws)(p:ByteArray):¬ Bl hs (zf8 hs ws [] []) p:=by
 intro hp;obtain⟨-,i2⟩:=zfc (op:=[]) (dt:=[]) h1 h2;induction hp with
 | free a1 a2 a3 a4 a5 a6 a7 =>
  rw[i2,Option.map_eq_none_iff,zq1,zpw h1 a4] at a7;obtain⟨y,e1,e2,e3⟩:=zpz h1 h2 a1;have hd:y.dst≠z2l:=by rw[e2] at a3;exact a3
  obtain⟨b,eb,b1,b2,-⟩:=zq0 e1 hd;have hbw:=(zk5 eb).1;have hhw:=(zk5 a7.symm).1;have:=h2.loc _ hhw _ hbw (by rw[a5,b2,e2];rfl)
  exact a6 (this.trans (b1.trans e3))
 | stay a1 a2 a3 a4 a5 a6 a7 a8 =>
  rw[i2,Option.map_eq_some_iff] at a7;obtain⟨z,-,rfl⟩:=a7;have:z3o (zf6 [] [] z)=true:=a8;rw[zq2] at this;cases this
 | next a1 a2 a3 a4 a5 a6 a7 ih=>exact ih
theorem zq3 (h1:zf0 hs)(h2:zf0 ws)(p:ByteArray):blB hs (zf8 hs ws [] []) p=false:=by
 cases e:blB hs (zf8 hs ws [] []) p
 ·rfl
 ·exact absurd (zee.1 e) (bl_none h1 h2 p)
theorem zq4 (h1:zf0 hs)(h2:zf0 ws):z4y hs (zf9 hs ws [] [])=ws:=by
 obtain⟨r1,r3⟩:=zpx (op:=[]) (dt:=[]) h1 h2;obtain⟨-,i2⟩:=zfd (op:=[]) (dt:=[]) h1 h2;refine zpu r1 h2.srt fun p=>?_;show z6d _ p=z6d ws p
 rw[r3,i2];cases e:z6i (z6d hs p) (z6d ws p) with
 | none=>exact zq1.1 e
 | some y =>
  have hst:z3o (zef (blB hs (zf8 hs ws [] [])) (zf7 [] [] y)).kind=false:=by
   rw[zej,zq3 h1 h2];exact zq2 y
  obtain⟨m1,m2,m3⟩:=zei (blB hs (zf8 hs ws [] [])) (zf7 [] [] y);have m4:=zeh (blB hs (zf8 hs ws [] [])) (zf7 [] [] y);show zeo _ (some (zef _ _))=_
  unfold zeo;simp only[hst,Bool.false_eq_true,if_false,m1,m3,m4]
  rcases zfb e with⟨a,ea,ew,rfl⟩ | ⟨b,eh,eb,rfl⟩ | ⟨a,b,ea,eb,-,rfl⟩
  ·rw[ew];rfl
  ·rw[eb];have:=h2.locNe (zk5 eb).1;show (if b.loc=z2l then _ else _)=_
   rw[if_neg this];rfl
  ·rw[eb];have:=h2.locNe (zk5 eb).1;show (if b.loc=z2l then _ else _)=_
   rw[if_neg this];rfl
theorem zq5 (h1:zf0 hs)(h2:zf0 ws){p:ByteArray}(h:z6e (zf9 hs ws op dt) p=none∨∃ x,z6e (zf9 hs ws op dt) p=some x∧z3o x.kind=true):
  z6d (z4y hs (zf9 hs ws op dt)) p=z6d hs p:=by
 rw[(zpx h1 h2).2];rcases h with h | ⟨x,h,hst⟩
 ·rw[h];rfl
 ·rw[h];simp only[zeo,hst,if_true]
theorem zql (h1:zf0 hs)(h2:zf0 ws){p:ByteArray}(h:z6e (zf8 hs ws op dt) p=none∨(∃ y,z6e (zf8 hs ws op dt) p=some y∧z3o y.kind=true)∨Bl hs (zf8 hs ws op dt) p):
  z6e (zf9 hs ws op dt) p=none∨∃ x,z6e (zf9 hs ws op dt) p=some x∧z3o x.kind=true:=by
 have e:z6e (zf9 hs ws op dt) p=(z6e (zf8 hs ws op dt) p).map (zef (blB hs (zf8 hs ws op dt))):=zek _ _ _;rcases h with h | ⟨y,h,hs2⟩ | h
 ·rw[e,h];exact .inl rfl
 ·rw[e,h];exact .inr ⟨_,rfl,by rw[zej,hs2,Bool.or_true]⟩
 ·cases hg:z6e (zf8 hs ws op dt) p with
  | none=>rw[e,hg];exact .inl rfl
  | some y =>
   rw[e,hg];refine .inr ⟨_,rfl,?_⟩;rw[zej,(z61 hg).2,zee.2 h];rfl
theorem zq6 (h1:zf0 hs)(h2:zf0 ws){x:Syn}(hx:x∈zf9 hs ws op dt)(hd:z3o x.kind=false):
  x.path∉op∧¬(x.frm≠z2l∧x.frm∈dt)∧¬(x.dst≠z2l∧x.dst∈dt)∧∀ a∈z4y hs (zf9 hs ws op dt),a.loc=x.dst→a.path=x.path:=by
 obtain⟨y,e1,e3,ex,-,-⟩:=zk7 h1 h2 hx hd;have hk:z3o (zf6 op dt y)=false:=by rw[ex] at hd;exact hd
 have ho:y.path∉op:=fun h=>by unfold zf6 at hk;rw[if_pos h] at hk;exact absurd hk (by decide)
 have hdt:¬((y.frm≠z2l∧y.frm∈dt)∨(y.dst≠z2l∧y.dst∈dt)):=fun h=>by unfold zf6 at hk;rw[if_neg ho,if_pos h] at hk;exact absurd hk (by decide)
 have e4:x.frm=y.frm:=by rw[ex];rfl
 have e5:x.dst=y.dst:=by rw[ex];rfl
 refine⟨e3 ▸ ho,fun h=>hdt (.inl (by rw[← e4];exact h)),fun h=>hdt (.inr (by rw[← e5];exact h)),fun a ha el=>?_⟩
 rcases zk8 h1 h2 ha with⟨m,s⟩ | ⟨m,-⟩
 ·exact zk9 h1 h2 hx hd (by rw[← el];exact h1.locNe m) m el s
 ·obtain⟨b,eb,b1,b2,-⟩:=zq0 e1 (by rw[← e5,← el];exact h2.locNe m)
  rw[← e3,← b1];exact h2.loc a m b (zk5 eb).1 (by rw[el,e5,b2])
theorem zqm {y:Syn}(h:zf6 op dt y=6):y.path∈op:=by
 unfold zf6 at h;split at h
 ·assumption
 ·split at h
  ·cases h
  ·unfold z3p at h;split at h
   ·cases h
   ·split at h
    ·cases h
    ·split at h <;> cases h
theorem zqn {y:Syn}(h:zf6 op dt y=5):(y.frm≠z2l∧y.frm∈dt)∨(y.dst≠z2l∧y.dst∈dt):=by
 unfold zf6 at h;split at h
 ·cases h
 ·split at h
  ·assumption
  ·unfold z3p at h;split at h
   ·cases h
   ·split at h
    ·cases h
    ·split at h <;> cases h
theorem zqo (h1:zf0 hs)(h2:zf0 ws){x:Syn}(hx:x∈zf9 hs ws op dt):
  (x.kind=6→x.path∈op)∧(x.kind=5→((x.frm≠z2l∧x.frm∈dt)∨(x.dst≠z2l∧x.dst∈dt))∨∃ a∈z4y hs (zf9 hs ws op dt),a.loc=x.dst∧a.path≠x.path∧z6d hs a.path=some a):=by
 obtain⟨y,e1,e2,e3⟩:=zfe h1 h2 hx;obtain⟨m1,m2,m3⟩:=zei (blB hs (zf8 hs ws op dt)) (zf7 op dt y);rw[← e2] at m1 m2 m3;have f2:x.frm=y.frm:=m2;have f3:x.dst=y.dst:=m3;have ek:(zf7 op dt y).path=x.path:=e3;cases hb:blB hs (zf8 hs ws op dt) x.path with
 | false =>
  have ex:x=zf7 op dt y:=by rw[e2];unfold zef;rw[if_neg (by rw[ek,hb];decide)]
  have ekd:x.kind=zf6 op dt y:=congrArg Syn.kind ex;refine⟨fun h=>e3 ▸ zqm (ekd ▸ h),fun h=>.inl ?_⟩;rw[f2,f3];exact zqn (ekd ▸ h)
 | true =>
  have ekd:x.kind=5:=by rw[e2];unfold zef;rw[if_pos (by rw[ek,hb])]
  refine⟨fun h=>(by rw[ekd] at h;cases h),fun _=>.inr ?_⟩
  have hB:=zee.1 hb;have key:∀ p,Bl hs (zf8 hs ws op dt) p→∃ z h,z∈zf8 hs ws op dt∧z.path=p∧h∈hs∧h.loc=z.dst∧h.path≠p∧(z6e (zf8 hs ws op dt) h.path=none∨(∃ y,z6e (zf8 hs ws op dt) h.path=some y∧z3o y.kind=true)∨Bl hs (zf8 hs ws op dt) h.path):=by
   intro p hp;cases hp with
   | free a1 a2 a3 a4 a5 a6 a7=>exact⟨_,_,a1,rfl,a4,a5,a6,.inl a7⟩
   | stay a1 a2 a3 a4 a5 a6 a7 a8=>exact⟨_,_,a1,rfl,a4,a5,a6,.inr (.inl ⟨_,a7,a8⟩)⟩
   | next a1 a2 a3 a4 a5 a6 a7=>exact⟨_,_,a1,rfl,a4,a5,a6,.inr (.inr a7)⟩
  obtain⟨z,h,z1,z2,z3,z4,z5,z6⟩:=key _ hB;have hr:=zq5 h1 h2 (zql h1 h2 z6);rw[zpw h1 z3] at hr;have hzx:z.dst=x.dst:=by
   obtain⟨i1,-⟩:=zfc (op:=op) (dt:=dt) h1 h2;have g1:z6e (zf8 hs ws op dt) z.path=some z:=z65 i1 z1;have g2:=(zfc (op:=op) (dt:=dt) h1 h2).2 x.path;rw[e1] at g2;rw[z2,g2] at g1;have:=congrArg Syn.dst (Option.some.inj g1);rw[f3];exact this.symm
  exact⟨h,(zk5 hr).1,by rw[z4,hzx],z5,zpw h1 z3⟩
end
theorem zqq (w:World)(n:Nat):Below w.heap.size w (w.drewN n):=⟨rfl,rfl,rfl,Nat.le_refl _,fun _ _=>rfl⟩
structure z6t (S:List Nat)(w w':World):Prop where
 os:w'.os=w.os
 tape:w'.tape=w.tape
 output:w'.output=w.output
 size:w.heap.size≤w'.heap.size
 block:∀ k,k<w.heap.size→k∉S→w'.heap[k]? = w.heap[k]?
theorem z6t.below {S:List Nat}{w w':World}(h:Below w.heap.size w w'):z6t S w w':=⟨h.os,h.tape,h.output,h.size,fun k hk _=>h.block k hk⟩
theorem z6t.grown {S:List Nat}{w w':World}{g:Nat}(h:w.grownBy w' (some g))(hg:g∈S):z6t S w w':=⟨h.os,h.tape,h.output,h.size,fun k hk hs=>h.block k hk (by intro e;injection e with e;subst e;exact hs hg)⟩
theorem z6t.trans {S:List Nat}{w w1 w2:World}(h:z6t S w w1)(h2:z6t S w1 w2):z6t S w w2:=
 ⟨h2.os.trans h.os,h2.tape.trans h.tape,h2.output.trans h.output,Nat.le_trans h.size h2.size,fun k hk hs=>(h2.block k (Nat.lt_of_lt_of_le hk h.size) hs).trans (h.block k hk hs)⟩
theorem z6t.to_below {S:List Nat}{w w':World}{B:Nat}(h:z6t S w w')(hS:∀ s∈S,B≤s)(hB:B≤w.heap.size):Below B w w':=
 ⟨h.os,h.tape,h.output,h.size,fun k hk=>h.block k (Nat.lt_of_lt_of_le hk hB) (fun hs=>by have:=hS k hs;omega)⟩
theorem z6t.blk {S:List Nat}{w w':World}{g:Nat}{e:TypeId}{cs:List Value}(h:z6t S w w')(hB:Blk w g e cs)(hg:g∉S):Blk w' g e cs:=(h.block g (Blk.lt hB) hg).trans hB
theorem z6t.fmap {κ α:Type}[BEq κ]{kv:κ→Value}{enc:α→Value}{S:List Nat}{w w':World}{B:Nat}{F:κ→Option α}(h:z6t S w w')(hM:z2f kv enc w B F)(hg:B∉S):z2f kv enc w' B F:=hM.keep (h.block B hM.lt hg)
theorem Row.set_far {w:World}{size n g i:Nat}{v u:Value}{xs:List Value}(h:Row w size v n xs)(hne:v.ownBlock≠some g):Row (w.setCell ⟨g,i,none⟩ u) size v n xs:=by
 obtain⟨A,c,rfl,hc,hm,hl,h0,hx⟩:=h;refine⟨A,c,rfl,hc,hm,hl,h0,fun hn=>?_⟩;obtain⟨ad,rfl,hb,hcell⟩:=hx hn;refine⟨ad,rfl,by simpa [World.setCell] using hb,fun j u' hu=>?_⟩
 rw[← hcell j u' hu];refine World.cell?_of_block (Below.heap_setCell w _ _ _ ?_);rw[z00];intro e;exact hne (congrArg some e)
theorem Row.kept {S:List Nat}{w X:World}{size n c:Nat}{ad:Addr}{xs:List Value}(h:Row w size (.slice (some ad) n c) n xs)(hK:z6t S w X)(hb:ad.block∉S):Row X size (.slice (some ad) n c) n xs:=by
 obtain⟨A,c',e,hc,hm,hl,h0,hx⟩:=h;injection e with e1 e2 e3
 subst e3;refine⟨some ad,c,rfl,hc,hm,hl,(fun h=>by cases h),fun hn=>?_⟩
 obtain⟨ad',e4,hb',hcell⟩:=hx hn;rw[← e1] at e4;injection e4 with e4
 subst e4;refine⟨ad,rfl,Nat.lt_of_lt_of_le hb' hK.size,fun j u' hu=>?_⟩;rw[← hcell j u' hu];refine World.cell?_of_block ?_;rw[z00];exact hK.block _ hb' hb
theorem z6u (w:World)(g i:Nat)(u:Value):w.grownBy (w.setCell ⟨g,i,none⟩ u) (some g):=
 ⟨rfl,rfl,rfl,by simp,fun k _ hk=>Below.heap_setCell w ⟨g,i,none⟩ u k (fun e=>hk (by rw[e]))⟩
theorem at_any (revs:List Rev)(q:ByteArray)(m:Int)(dv dr:Value)(w:World)(hR:z45 w dv revs)(hl:revs.length≤1000000):
  Calls Tryz.prog 27 #[.agg #[dv,dr],.string q,.int .i64 m] w
   fun e w'=>e=.returned (.tuple #[.agg #[.string (zec (z30 revs q (fun v:Rev=>decide (v.chg≤m)))).path,.int .i64 (zec (z30 revs q (fun v:Rev=>decide (v.chg≤m)))).num,.int .i64 (zec (z30 revs q (fun v:Rev=>decide (v.chg≤m)))).chg,.int .i64 (zec (z30 revs q (fun v:Rev=>decide (v.chg≤m)))).act,.int .i64 (zec (z30 revs q (fun v:Rev=>decide (v.chg≤m)))).ty.base,.bool (zec (z30 revs q (fun v:Rev=>decide (v.chg≤m)))).ty.k,.bool (zec (z30 revs q (fun v:Rev=>decide (v.chg≤m)))).ty.l,.bool (zec (z30 revs q (fun v:Rev=>decide (v.chg≤m)))).ty.x,.int .u64 (zec (z30 revs q (fun v:Rev=>decide (v.chg≤m)))).sum,.int .i64 (zec (z30 revs q (fun v:Rev=>decide (v.chg≤m)))).size,.string (zec (z30 revs q (fun v:Rev=>decide (v.chg≤m)))).frm,.int .i64 (zec (z30 revs q (fun v:Rev=>decide (v.chg≤m)))).fnum],.bool (z30 revs q (fun v:Rev=>decide (v.chg≤m))).isSome])∧Below w.heap.size w w':=by
 have HR:=hd_ hR;obtain⟨Ar,cr,rfl,-⟩:=hR;obtain⟨dv,hdv⟩:∃ v,Value.slice Ar revs.length cr=v:=⟨_,rfl⟩;have hb0:Below w.heap.size w (((w.alloc (.cells #[(.slice Ar revs.length cr),dr] 26)).alloc (.cells #[.int .i64 m] 3)).alloc (.cells #[.string ⟨#[]⟩,.int .i64 0,.int .i64 0,.int .i64 0,.int .i64 0,.bool false,.bool false,.bool false,.int .u64 0,.int .i64 0,.string ⟨#[]⟩,.int .i64 0] 66)):=((((Below.refl _ _).alloc (Nat.le_refl _) _).alloc (by simp) _).alloc (by simp;omega) _)
 have hZ:Blk (((w.alloc (.cells #[(.slice Ar revs.length cr),dr] 26)).alloc (.cells #[.int .i64 m] 3)).alloc (.cells #[.string ⟨#[]⟩,.int .i64 0,.int .i64 0,.int .i64 0,.int .i64 0,.bool false,.bool false,.bool false,.int .u64 0,.int .i64 0,.string ⟨#[]⟩,.int .i64 0] 66)) (w.heap.size+1+1) 66 [.string ⟨#[]⟩,.int .i64 0,.int .i64 0,.int .i64 0,.int .i64 0,.bool false,.bool false,.bool false,.int .u64 0,.int .i64 0,.string ⟨#[]⟩,.int .i64 0]:=by
  have h1:=z0l ((w.alloc (.cells #[(.slice Ar revs.length cr),dr] 26)).alloc (.cells #[.int .i64 m] 3)) [.string ⟨#[]⟩,.int .i64 0,.int .i64 0,.int .i64 0,.int .i64 0,.bool false,.bool false,.bool false,.int .u64 0,.int .i64 0,.string ⟨#[]⟩,.int .i64 0] 66;simp only[World.size_alloc] at h1
  exact h1
 have hcell:(((w.alloc (.cells #[(.slice Ar revs.length cr),dr] 26)).alloc (.cells #[.int .i64 m] 3)).alloc (.cells #[.string ⟨#[]⟩,.int .i64 0,.int .i64 0,.int .i64 0,.int .i64 0,.bool false,.bool false,.bool false,.int .u64 0,.int .i64 0,.string ⟨#[]⟩,.int .i64 0] 66)).cell? ⟨w.heap.size+1,0,none⟩=some (.int .i64 m):=by
  have h1:=(z0l (w.alloc (.cells #[(.slice Ar revs.length cr),dr] 26)) [.int .i64 m] 3).alloc (.cells #[.string ⟨#[]⟩,.int .i64 0,.int .i64 0,.int .i64 0,.int .i64 0,.bool false,.bool false,.bool false,.int .u64 0,.int .i64 0,.string ⟨#[]⟩,.int .i64 0] 66);simp only[World.size_alloc] at h1
  exact h1.cell 0
 have HC:=hd_ (zed revs q m (w.heap.size+1) (.slice Ar revs.length cr) dr _ (HR.out.below hb0) hcell hl);clear hdv dv hcell;generalize z30 revs q (fun v:Rev=>decide (v.chg≤m))=o at HC ⊢;generalize zec o=r at HC ⊢;go_enter Tryz.func27,Tryz.ntmps27;go_wp2_with fail;refine HC.out.mono ?_;rintro e w1 ⟨rfl,hb1⟩;have hZ1:=hZ.below hb1 hZ.lt;have hbw1:=z0r hb0 hb1;obtain⟨z0,z1,z2,z3,z4,z5,z6,z7,z8,z9,z10,z11⟩:=z7z hZ1;obtain⟨y0,y1,y2,y3,y4,y5,y6,y7,y8,y9,y10,y11⟩:=zdz hZ1;clear hb1;go_wp2_with fail;have hZ3:=ze0 hZ1 r;have hB3:=ze1 hbw1 (show w.heap.size≤w.heap.size+1+1 by omega) r
 generalize ((((((((((((w1.setCell ⟨w.heap.size+1+1,0,none⟩ (.string r.path)).setCell ⟨w.heap.size+1+1,1,none⟩ (.int .i64 r.num)).setCell ⟨w.heap.size+1+1,2,none⟩ (.int .i64 r.chg)).setCell ⟨w.heap.size+1+1,3,none⟩ (.int .i64 r.act)).setCell ⟨w.heap.size+1+1,4,none⟩ (.int .i64 r.ty.base)).setCell ⟨w.heap.size+1+1,5,none⟩ (.bool r.ty.k)).setCell ⟨w.heap.size+1+1,6,none⟩ (.bool r.ty.l)).setCell ⟨w.heap.size+1+1,7,none⟩ (.bool r.ty.x)).setCell ⟨w.heap.size+1+1,8,none⟩ (.int .u64 r.sum)).setCell ⟨w.heap.size+1+1,9,none⟩ (.int .i64 r.size)).setCell ⟨w.heap.size+1+1,10,none⟩ (.string r.frm)).setCell ⟨w.heap.size+1+1,11,none⟩ (.int .i64 r.fnum))=W3 at hZ3 hB3 ⊢;obtain⟨e0,e1,e2,e3,e4,e5,e6,e7,e8,e9,e10,e11⟩:=z7z hZ3;exact bodyPost_ret (v:=.tuple #[.agg #[.string r.path,.int .i64 r.num,.int .i64 r.chg,.int .i64 r.act,.int .i64 r.ty.base,.bool r.ty.k,.bool r.ty.l,.bool r.ty.x,.int .u64 r.sum,.int .i64 r.size,.string r.frm,.int .i64 r.fnum],.bool o.isSome]) (by simp [results,Tryz.results27,go_sem,e0,e1,e2,e3,e4,e5,e6,e7,e8,e9,e10,e11]) rfl ⟨rfl,hB3⟩
end Go.Proofs.YtegeboijhifmcaaGreatDoor
