/- A part. -/
import Derived.Test.YtijghobkkdbhnaaGreatDoorMcw13
import Derived.Test.YtijghobkkdbhnaaGreatDoorMcw12
set_option linter.unusedVariables false
set_option linter.unusedSimpArgs false
set_option maxHeartbeats 4000000
set_option maxRecDepth 100000
namespace Go.Proofs.YtijghobkkdbhnaaGreatDoor
open Go.Proofs.Tryz
open Go.RowKit
structure zcv where
 l:zco
 r:zco
 hv:Value
 hs:List zco
def zcv.cells (x:zcv):List Value:=[x.l.v,.bool x.l.1.rest,x.r.v,.bool x.r.1.rest,x.hv]
def zcv.val (x:zcv):Value:=.agg #[x.l.v,.bool x.l.1.rest,x.r.v,.bool x.r.1.rest,x.hv]
structure zcw (w:World)(x:zcv):Prop where
 l:z9j w x.l.v x.l.1
 r:z9j w x.r.v x.r.1
 h:zcp w x.hv x.hs
 n:x.hs.length≤1000
theorem zcw.below {w w':World}{x:zcv}(h:zcw w x)(hb:zB w w'):zcw w' x:=⟨h.l.below hb,h.r.below hb,h.h.below hb,h.n⟩
theorem zcx (A B:Option Addr)(n m a b:Nat)(x y:Bool)(h0:Value)(w:World):Calls prog 120 #[.agg #[(.slice A n a),(.bool x),(.slice B m b),(.bool y),h0]] w fun e w'=>e=.returned (.agg #[.bool false,(.slice A n a),(.bool x),(.slice B m b),(.bool y)])∧zB w w':=by
 have hB:=z0l w [(.slice A n a),(.bool x),(.slice B m b),(.bool y),h0] 71;have hA:zB w (w.alloc (.cells #[(.slice A n a),(.bool x),(.slice B m b),(.bool y),h0] 71)):=(Below.refl _ _).alloc (Nat.le_refl _) _;go_enter func120,ntmps120;go_upto_region 1 with fail;have hZ:=z0l (w.alloc (.cells #[(.slice A n a),(.bool x),(.slice B m b),(.bool y),h0] 71)) [.bool false,.slice none 0 0,.bool false,.slice none 0 0,.bool false] 74;rw[World.size_alloc] at hZ;have hB1:=hB.alloc (.cells #[.bool false,.slice none 0 0,.bool false,.slice none 0 0,.bool false] 74);have hA1:=hA.alloc (by simp:w.heap.size≤_) (.cells #[.bool false,.slice none 0 0,.bool false,.slice none 0 0,.bool false] 74)
 generalize (w.alloc (.cells #[(.slice A n a),(.bool x),(.slice B m b),(.bool y),h0] 71)).alloc (.cells #[.bool false,.slice none 0 0,.bool false,.slice none 0 0,.bool false] 74)=W1 at hZ hB1 hA1 ⊢;obtain⟨d0,d1,d2,d3⟩:=(⟨hB1.cell 0,hB1.cell 1,hB1.cell 2,hB1.cell 3⟩:W1.cell? ⟨w.heap.size,0,none⟩=some (.slice A n a)∧W1.cell? ⟨w.heap.size,1,none⟩=some (.bool x)∧W1.cell? ⟨w.heap.size,2,none⟩=some (.slice B m b)∧W1.cell? ⟨w.heap.size,3,none⟩=some (.bool y));obtain⟨z0,z1,z2,z3,z4⟩:=(⟨hZ.cell 0,hZ.cell 1,hZ.cell 2,hZ.cell 3,hZ.cell 4⟩:W1.cell? ⟨w.heap.size+1,0,none⟩=some (.bool false)∧W1.cell? ⟨w.heap.size+1,1,none⟩=some (.slice none 0 0)∧W1.cell? ⟨w.heap.size+1,2,none⟩=some (.bool false)∧W1.cell? ⟨w.heap.size+1,3,none⟩=some (.slice none 0 0)∧W1.cell? ⟨w.heap.size+1,4,none⟩=some (.bool false));obtain⟨y0,y1,y2,y3,y4⟩:=(⟨hZ.frozen 0,hZ.frozen 1,hZ.frozen 2,hZ.frozen 3,hZ.frozen 4⟩:W1.frozen? ⟨w.heap.size+1,0,none⟩=false∧W1.frozen? ⟨w.heap.size+1,1,none⟩=false∧W1.frozen? ⟨w.heap.size+1,2,none⟩=false∧W1.frozen? ⟨w.heap.size+1,3,none⟩=false∧W1.frozen? ⟨w.heap.size+1,4,none⟩=false);go_wp2_with fail;have hE:=((((hZ.set_ 0 (.bool false)).set_ 1 (.slice A n a)).set_ 2 (.bool x)).set_ 3 (.slice B m b)).set_ 4 (.bool y);have hb:=((((hA1.setCell (p:=⟨w.heap.size+1,0,none⟩) (by simp) (.bool false)).setCell (p:=⟨w.heap.size+1,1,none⟩) (by simp) (.slice A n a)).setCell (p:=⟨w.heap.size+1,2,none⟩) (by simp) (.bool x)).setCell (p:=⟨w.heap.size+1,3,none⟩) (by simp) (.slice B m b)).setCell (p:=⟨w.heap.size+1,4,none⟩) (by simp) (.bool y)
 generalize ((((W1.setCell ⟨w.heap.size+1,0,none⟩ (.bool false)).setCell ⟨w.heap.size+1,1,none⟩ (.slice A n a)).setCell ⟨w.heap.size+1,2,none⟩ (.bool x)).setCell ⟨w.heap.size+1,3,none⟩ (.slice B m b)).setCell ⟨w.heap.size+1,4,none⟩ (.bool y)=W3 at hE hb ⊢;have e0:=hE.cell 0;have e1:=hE.cell 1;have e2:=hE.cell 2;have e3:=hE.cell 3;have e4:=hE.cell 4;exact bodyPost_ret (v:=.agg #[.bool false,.slice A n a,.bool x,.slice B m b,.bool y]) (by simp [results,results120,go_sem,e0,e1,e2,e3,e4]) rfl ⟨rfl,hb⟩
theorem zcy (A H:Option Addr)(n a k c:Nat)(x y:Bool)(r0:Value)(w:World):Calls prog 69 #[.agg #[.slice A n a,.bool x,r0,.bool y,.slice H k c]] w fun e w'=>e=.returned (.agg #[.slice A n a,.bool x,.slice H k c])∧zB w w':=by
 have hB:=z0l w [.slice A n a,.bool x,r0,.bool y,.slice H k c] 71;have hA:zB w (w.alloc (.cells #[.slice A n a,.bool x,r0,.bool y,.slice H k c] 71)):=(Below.refl _ _).alloc (Nat.le_refl _) _;go_enter func69,ntmps69;go_upto_region 1 with fail;have hZ:=z0l (w.alloc (.cells #[.slice A n a,.bool x,r0,.bool y,.slice H k c] 71)) [.slice none 0 0,.bool false,.slice none 0 0] 78;rw[World.size_alloc] at hZ;have hB1:=hB.alloc (.cells #[.slice none 0 0,.bool false,.slice none 0 0] 78);have hA1:=hA.alloc (by simp:w.heap.size≤_) (.cells #[.slice none 0 0,.bool false,.slice none 0 0] 78)
 generalize (w.alloc (.cells #[.slice A n a,.bool x,r0,.bool y,.slice H k c] 71)).alloc (.cells #[.slice none 0 0,.bool false,.slice none 0 0] 78)=W1 at hZ hB1 hA1 ⊢;obtain⟨d0,d1,d4⟩:=(⟨hB1.cell 0,hB1.cell 1,hB1.cell 4⟩:W1.cell? ⟨w.heap.size,0,none⟩=some (.slice A n a)∧W1.cell? ⟨w.heap.size,1,none⟩=some (.bool x)∧W1.cell? ⟨w.heap.size,4,none⟩=some (.slice H k c));obtain⟨z0,z1,z2⟩:=(⟨hZ.cell 0,hZ.cell 1,hZ.cell 2⟩:W1.cell? ⟨w.heap.size+1,0,none⟩=some (.slice none 0 0)∧W1.cell? ⟨w.heap.size+1,1,none⟩=some (.bool false)∧W1.cell? ⟨w.heap.size+1,2,none⟩=some (.slice none 0 0));obtain⟨y0,y1,y2⟩:=(⟨hZ.frozen 0,hZ.frozen 1,hZ.frozen 2⟩:W1.frozen? ⟨w.heap.size+1,0,none⟩=false∧W1.frozen? ⟨w.heap.size+1,1,none⟩=false∧W1.frozen? ⟨w.heap.size+1,2,none⟩=false);go_wp2_with fail;have hE:=((hZ.set_ 0 (.slice A n a)).set_ 1 (.bool x)).set_ 2 (.slice H k c);have hb:=((hA1.setCell (p:=⟨w.heap.size+1,0,none⟩) (by simp) (.slice A n a)).setCell (p:=⟨w.heap.size+1,1,none⟩) (by simp) (.bool x)).setCell (p:=⟨w.heap.size+1,2,none⟩) (by simp) (.slice H k c)
 generalize ((W1.setCell ⟨w.heap.size+1,0,none⟩ (.slice A n a)).setCell ⟨w.heap.size+1,1,none⟩ (.bool x)).setCell ⟨w.heap.size+1,2,none⟩ (.slice H k c)=W3 at hE hb ⊢;have e0:=hE.cell 0;have e1:=hE.cell 1;have e2:=hE.cell 2;exact bodyPost_ret (v:=.agg #[.slice A n a,.bool x,.slice H k c]) (by simp [results,results69,go_sem,e0,e1,e2]) rfl ⟨rfl,hb⟩
theorem zcz (l r:Pat)(hs:List zco)(A B H:Option Addr)(a b c:Nat)(w:World)(hl:z9j w (.slice A l.parts.length a) l)(hr:z9j w (.slice B r.parts.length b) r)(hh:zcp w (.slice H hs.length c) hs)(hn:hs.length≤1000000)(e1:z9i l r=0)(e2:zcq l hs=0):
  Calls prog 66 #[.agg #[.slice A l.parts.length a,.bool l.rest,.slice B r.parts.length b,.bool r.rest,.slice H hs.length c]] w fun e w'=>e=.returned (.bool true)∧zB w w':=by
 have hB:=z0l w [.slice A l.parts.length a,.bool l.rest,.slice B r.parts.length b,.bool r.rest,.slice H hs.length c] 71;have hA:zB w (w.alloc (.cells #[.slice A l.parts.length a,.bool l.rest,.slice B r.parts.length b,.bool r.rest,.slice H hs.length c] 71)):=(Below.refl _ _).alloc (Nat.le_refl _) _;have HLI:=hd_ (fun X=>zcx A B l.parts.length r.parts.length a b l.rest r.rest (.slice H hs.length c) X);have HLE:=hd_ (fun X=>zcy A H l.parts.length a hs.length c l.rest r.rest (.slice B r.parts.length b) X);have HRC:=hd_ (fun X (hX:zB w X)=>z9k false l r A B a b X (hl.below hX) (hr.below hX));have HGC:=hd_ (fun X (hX:zB w X)=>zcu l hs A H a c X (hl.below hX) (hh.below hX) hn);rw[e1] at HRC;rw[e2] at HGC;clear hl hr hh hn e1 e2;go_enter func66,ntmps66;go_upto_region 1 with fail;generalize w.alloc (.cells #[.slice A l.parts.length a,.bool l.rest,.slice B r.parts.length b,.bool r.rest,.slice H hs.length c] 71)=W1 at hA hB ⊢;obtain⟨d0,d1,d2,d3,d4⟩:=(⟨hB.cell 0,hB.cell 1,hB.cell 2,hB.cell 3,hB.cell 4⟩:W1.cell? ⟨w.heap.size,0,none⟩=some (.slice A l.parts.length a)∧W1.cell? ⟨w.heap.size,1,none⟩=some (.bool l.rest)∧W1.cell? ⟨w.heap.size,2,none⟩=some (.slice B r.parts.length b)∧W1.cell? ⟨w.heap.size,3,none⟩=some (.bool r.rest)∧W1.cell? ⟨w.heap.size,4,none⟩=some (.slice H hs.length c));have HB:=hd_ hB;have HA:=hd_ hA;clear hA hB;go_wp2_with fail;refine (HLI.out W1).mono ?_;rintro e w2 ⟨rfl,hb⟩;have HA2:=hd_ (z0r HA.out hb);have HB2:=hd_ (HB.out.below hb HB.out.lt);clear hb d0 d1 d2 d3 d4;go_wp2_with fail;refine (HRC.out w2 HA2.out).mono ?_;rintro e w3 ⟨rfl,hb⟩;have HA3:=hd_ (z0r HA2.out hb);have hB3:=HB2.out.below hb HB2.out.lt;clear hb;obtain⟨d0,d1,d2,d3,d4⟩:=(⟨hB3.cell 0,hB3.cell 1,hB3.cell 2,hB3.cell 3,hB3.cell 4⟩:w3.cell? ⟨w.heap.size,0,none⟩=some (.slice A l.parts.length a)∧w3.cell? ⟨w.heap.size,1,none⟩=some (.bool l.rest)∧w3.cell? ⟨w.heap.size,2,none⟩=some (.slice B r.parts.length b)∧w3.cell? ⟨w.heap.size,3,none⟩=some (.bool r.rest)∧w3.cell? ⟨w.heap.size,4,none⟩=some (.slice H hs.length c))
 clear hB3;go_wp2_with fail;refine (HLE.out w3).mono ?_;rintro e w4 ⟨rfl,hb⟩;have HA4:=hd_ (z0r HA3.out hb);clear hb d0 d1 d2 d3 d4;go_wp2_with fail;refine (HGC.out w4 HA4.out).mono ?_;rintro e w5 ⟨rfl,hb⟩;have HA5:=hd_ (z0r HA4.out hb);clear hb;go_wp2_with fail;go_ret;exact⟨rfl,HA5.out⟩
def zjg (hs:List Hav)(p:ByteArray):ByteArray:=((z6k hs p).map Hav.loc).getD z2q
section
variable {hs ws : List Hav} {op dt : List ByteArray}
theorem zjh {l:List Hav}{p:ByteArray}{a:Hav}(h:z6k l p=some a):a∈l∧a.path=p:=z67 h
theorem getH_of {l:List Hav}(h:zek l){a:Hav}(ha:a∈l):z6k l a.path=some a:=z6b h.srt ha
theorem zji {b:ByteArray→Bool}{x:Syn}(h:z3t (zdy b x).kind=false):b x.path=false∧z3t x.kind=false:=by
 rw[ze2] at h;cases e:b x.path <;> cases e2:z3t x.kind <;> simp_all
theorem zjj (h1:zek hs)(h2:zek ws){x:Syn}(hx:x∈zet hs ws op dt)(hd:z3t x.kind=false):
  ∃ y,z6p (z6k hs x.path) (z6k ws x.path)=some y∧y.path=x.path∧x=zer op dt y∧x∈zes hs ws op dt∧blB hs (zes hs ws op dt) x.path=false:=by
 obtain⟨y,e1,e2,e3⟩:=zez h1 h2 hx;rw[e2] at hd;obtain⟨d1,d2⟩:=zji hd;have ek:(zer op dt y).path=x.path:=e3;rw[ek] at d1;have ex:x=zer op dt y:=by
  rw[e2];unfold zdy
  rw[if_neg (by rw[ek,d1];decide)]
 refine⟨y,e1,e3,ex,?_,d1⟩;obtain⟨i1,i2⟩:=zex (op:=op) (dt:=dt) h1 h2;have:=i2 x.path;rw[e1] at this;exact ex ▸ (z67 this).1
theorem zjk (h1:zek hs)(h2:zek ws){x:Syn}(hx:x∈zet hs ws op dt):zi5 x (zjg hs x.path)=true:=by
 obtain⟨y,e1,e2,e3⟩:=zez h1 h2 hx;have hr:=ze1 (blB hs (zes hs ws op dt)) (zer op dt y);rw[← e2] at hr;obtain⟨r1,r2,r3⟩:=hr;have hk:z3t x.kind=true∨x.kind=z3u x.frm x.dst:=by
  cases hst:z3t x.kind with
  | true=>exact .inl rfl
  | false =>
   right
   obtain⟨z,z1,-,zx,-,-⟩:=zjj h1 h2 hx hst;rw[zx] at hst ⊢;show zeq op dt z=z3u z.frm z.dst
   have hst':z3t (zeq op dt z)=false:=hst;unfold zeq at hst' ⊢
   split at hst'
   ·exact absurd hst' (by decide)
   ·rename_i c1
    rw[if_neg c1];split at hst'
    ·exact absurd hst' (by decide)
    ·rename_i c2
     rw[if_neg c2]
 have f1:x.num=y.num:=r1;have f2:x.frm=y.frm:=r2;have f3:x.dst=y.dst:=r3;have key:z3v x.path=true∧x.frm=zjg hs x.path∧¬(x.frm=z2q∧x.dst=z2q)∧(x.dst=z2q→x.num=0)∧(x.dst≠z2q→1≤x.num∧z3v x.dst=true):=by
  unfold zjg;rcases zew e1 with⟨a,ea,ew,rfl⟩ | ⟨b,eh,eb,rfl⟩ | ⟨a,b,ea,eb,-,rfl⟩
  ·obtain⟨m,mp⟩:=zjh ea;have g1:x.frm=a.loc:=f2;have g2:x.dst=z2q:=f3;have g3:x.num=0:=f1;rw[g1,g2,g3,ea];exact⟨mp ▸ (zel (h1.ok a m)).1,rfl,fun h=>h1.locNe m h.1,fun _=>rfl,fun h=>absurd rfl h⟩
  ·obtain⟨m,mp⟩:=zjh eb;have g1:x.frm=z2q:=f2;have g2:x.dst=b.loc:=f3;have g3:x.num=b.num:=f1;rw[g1,g2,g3,eh];exact⟨mp ▸ (zel (h2.ok b m)).1,rfl,fun h=>h2.locNe m h.2,fun h=>absurd h (h2.locNe m),fun _=>⟨(zel (h2.ok b m)).2.2,(zel (h2.ok b m)).2.1⟩⟩
  ·obtain⟨m,mp⟩:=zjh ea;obtain⟨m2,-⟩:=zjh eb;have g1:x.frm=a.loc:=f2;have g2:x.dst=b.loc:=f3;have g3:x.num=b.num:=f1;rw[g1,g2,g3,ea];exact⟨mp ▸ (zel (h1.ok a m)).1,rfl,fun h=>h1.locNe m h.1,fun h=>absurd h (h2.locNe m2),fun _=>⟨(zel (h2.ok b m2)).2.2,(zel (h2.ok b m2)).2.1⟩⟩
 obtain⟨k1,k2,k3,k4,k5⟩:=key;unfold zi5;rw[k1,← k2];simp only[Bool.true_and,decide_true,Bool.and_eq_true,Bool.or_eq_true,Bool.not_eq_true',Bool.and_eq_false_iff,decide_eq_false_iff_not,beq_iff_eq]
 refine⟨⟨?_,?_⟩,hk⟩
 ·by_cases c:x.frm=z2q
  ·exact .inr fun c2=>k3 ⟨c,c2⟩
  ·exact .inl c
 ·by_cases c:x.dst=z2q
  ·rw[if_pos c];simpa using k4 c
  ·rw[if_neg c];obtain⟨q1,q2⟩:=k5 c;rw[q2];simpa using q1
end
def zmu (w:World)(p:Pat)(e:Ending)(w':World):Prop:=e=.returned (.tuple #[.int .i64 (z9c p),.bool p.rest])∧zB w w'
theorem zmv (p:Pat)(A:Option Addr)(c:Nat)(w:World)(hp:z9j w (.slice A p.parts.length c) p)(h0:z7g p=0):
  Calls prog 61 #[.agg #[.slice A p.parts.length c,.bool p.rest]] w (zmu w p):=by
 have hB:=z0l w [.slice A p.parts.length c,.bool p.rest] 68;have hA:zB w (w.alloc (.cells #[.slice A p.parts.length c,.bool p.rest] 68)):=(Below.refl _ _).alloc (Nat.le_refl _) _;have HP:=hd_ hp;have HF:=hd_ (fun k (hk:k<p.parts.length)=>zce h0 hk);have hl12:=za7 h0;clear hp h0;go_enter func61,ntmps61;go_upto_region 1 with fail;generalize w.alloc (.cells #[.slice A p.parts.length c,.bool p.rest] 68)=W1 at hB hA ⊢;have d0:W1.cell? ⟨w.heap.size,0,none⟩=some (.slice A p.parts.length c):=hB.cell 0;have d1:W1.cell? ⟨w.heap.size,1,none⟩=some (.bool p.rest):=hB.cell 1;have HA:=hd_ hA;clear hA hB;go_wp2_with fail;go_loop [4,12] (fun s i=>∃ k:Nat,k≤p.parts.length∧i=.int .i64 k∧s=.int .i64 (z9b p.parts k)) (fun _ i=>p.parts.length - (intOf i).toNat)
 case atStart=>exact⟨0,Nat.zero_le _,rfl,rfl⟩
 case round =>
  obtain⟨k,hk,rfl,rfl⟩:=hrel;have hsl:=z9f (l:=p.parts) k;by_cases hlt:k<p.parts.length
  ·obtain⟨ad,rfl,hab,x0⟩:=Strs.at_ (HP.out.below HA.out).1 hlt;have HT:=hd_ (fun X=>zc4 p.parts[k] X ((HP.out.small) _ (List.getElem_mem _)));unfold zc1 at HT;have HN:=hd_ (z9d hlt);rw[zbs (HF.out k hlt)] at HT;generalize p.parts[k]=part at x0 HT HN;generalize z7b part=st at HT HN;generalize z82 part=sx at HT;generalize z9b p.parts k=m at HN hsl;clear hab;cases st with
   | false =>
    go_wp2_with fail;refine (HT.out _).mono ?_;rintro e w' ⟨rfl,rfl⟩;go_wp2_with fail;go_round
    case rel=>exact⟨k+1,by omega,by go_num,by rw[HN.out];rfl⟩
    case measure=>simp [intOf];omega
   | true =>
    go_wp2_with fail;refine (HT.out _).mono ?_;rintro e w' ⟨rfl,rfl⟩;go_wp2_with fail;go_round
    case rel=>exact⟨k+1,by omega,by go_num,by rw[HN.out];go_num⟩
    case measure=>simp [intOf];omega
  ·have hke:k=p.parts.length:=by omega
   subst hke;rw[z9e];go_wp2_with fail;go_region_law (fail)
   go_wp2_with fail;go_ret2;exact⟨rfl,HA.out.drew⟩
theorem zmw (ex:Bool)(l r:Pat)(A B:Option Addr)(a b:Nat)(w:World)(hL:z9j w (.slice A l.parts.length a) l)(hR:z9j w (.slice B r.parts.length b) r)(h1:z7g l=0)(h2:z7g r=0)(h3:z9c l=z9c r)(h4:l.rest=r.rest):
  Calls prog 27 #[.agg #[.bool ex,.slice A l.parts.length a,.bool l.rest,.slice B r.parts.length b,.bool r.rest]] w fun e w'=>e=.returned (.int .i64 0)∧zB w w':=by
 have hB:=z0l w [.bool ex,.slice A l.parts.length a,.bool l.rest,.slice B r.parts.length b,.bool r.rest] 74;have hA:zB w (w.alloc (.cells #[.bool ex,.slice A l.parts.length a,.bool l.rest,.slice B r.parts.length b,.bool r.rest] 74)):=(Below.refl _ _).alloc (Nat.le_refl _) _;have HCL:=hd_ (fun X (hX:zB w X)=>zcc l A a X (hL.below hX).1 hL.small);have HCR:=hd_ (fun X (hX:zB w X)=>zcc r B b X (hR.below hX).1 hR.small);have HKL:=hd_ (fun X (hX:zB w X)=>zmv l A a X (hL.below hX) h1);have HKR:=hd_ (fun X (hX:zB w X)=>zmv r B b X (hR.below hX) h2);unfold zmu at HKL HKR;rw[h1] at HCL;rw[h2] at HCR;rw[← h3,← h4] at HKR;rw[← h4] at HCR ⊢;rw[← h4] at hB hA;clear hL hR h1 h2 h3 h4;generalize z9c l=n at HKL HKR;go_enter func27,ntmps27;go_upto_region 1 with fail;generalize w.alloc (.cells #[.bool ex,.slice A l.parts.length a,.bool l.rest,.slice B r.parts.length b,.bool l.rest] 74)=W1 at hB hA ⊢;have d1:W1.cell? ⟨w.heap.size,1,none⟩=some (.slice A l.parts.length a):=hB.cell 1;have d2:W1.cell? ⟨w.heap.size,2,none⟩=some (.bool l.rest):=hB.cell 2;have HB:=hd_ hB;have HA:=hd_ hA;have HC:=hd_ (HCL.out W1 hA);clear hA hB HCL;go_wp2_with fail;refine HC.out.mono ?_;rintro e w2 ⟨rfl,hb⟩;have HB:=hd_ (HB.out.below hb HB.out.lt);have HA:=hd_ (z0r HA.out hb);clear hb d1 d2 HC;have d3:w2.cell? ⟨w.heap.size,3,none⟩=some (.slice B r.parts.length b):=HB.out.cell 3;have d4:w2.cell? ⟨w.heap.size,4,none⟩=some (.bool l.rest):=HB.out.cell 4;have HC:=hd_ (HCR.out w2 HA.out);clear HCR;go_wp2_with fail;refine HC.out.mono ?_;rintro e w3 ⟨rfl,hb⟩;have HB:=hd_ (HB.out.below hb HB.out.lt);have HA:=hd_ (z0r HA.out hb);clear hb d3 d4 HC;have d1:w3.cell? ⟨w.heap.size,1,none⟩=some (.slice A l.parts.length a):=HB.out.cell 1;have d2:w3.cell? ⟨w.heap.size,2,none⟩=some (.bool l.rest):=HB.out.cell 2;have HC:=hd_ (HKL.out w3 HA.out);clear HKL;go_wp2_with fail;refine HC.out.mono ?_;rintro e w4 ⟨rfl,hb⟩;have HB:=hd_ (HB.out.below hb HB.out.lt)
 have HA:=hd_ (z0r HA.out hb);clear hb d1 d2 HC;have d3:w4.cell? ⟨w.heap.size,3,none⟩=some (.slice B r.parts.length b):=HB.out.cell 3;have d4:w4.cell? ⟨w.heap.size,4,none⟩=some (.bool l.rest):=HB.out.cell 4;have HC:=hd_ (HKR.out w4 HA.out);clear HKR;go_wp2_with fail;refine HC.out.mono ?_;rintro e w5 ⟨rfl,hb⟩;have HA:=hd_ (z0r HA.out hb);clear hb d3 d4 HC;have q1:((n:Int) != (n:Int))=false:=by simp
 cases l.rest
 all_goals
  go_wp2_with fail;go_ret;exact⟨rfl,HA.out⟩
