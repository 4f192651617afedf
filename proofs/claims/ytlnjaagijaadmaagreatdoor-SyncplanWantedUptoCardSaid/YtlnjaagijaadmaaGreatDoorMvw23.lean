/- A part. -/
import Derived.Test.YtlnjaagijaadmaaGreatDoorMvw19
import Derived.Test.YtlnjaagijaadmaaGreatDoorMvw21
set_option linter.unusedVariables false
set_option linter.unusedSimpArgs false
set_option maxHeartbeats 4000000
set_option maxRecDepth 100000
namespace Go.Proofs.YtlnjaagijaadmaaGreatDoor
open Go.Proofs.Tryz
open Go.RowKit
def zfs:List (List UInt8)->List (List UInt8)->Int
 | [],[]=>0
 | [],_ :: _=>-1
 | _ :: _,[]=>1
 | a :: l,b :: m=>if Lib.compareBytes a b=0 then zfs l m else Lib.compareBytes a b
def zft:List (List UInt8)->List UInt8
 | []=>[]
 | p :: ps=>47 :: p++zft ps
theorem zfu (p:List UInt8)(ps:List (List UInt8)):47 :: Lib.join (p :: ps) [47]=zft (p :: ps):=by
 induction ps generalizing p with
 | nil=>simp [Lib.join_one,zft]
 | cons q ps ih =>
  rw[z1l p (q :: ps) (by simp),zft,<- ih q]
  simp
def zfv (l:List UInt8):Prop:=l=[]\/∃ r,l=47 :: r
theorem zfw (ps:List (List UInt8)):zfv (zft ps):=by
 cases ps with
 | nil=>exact .inl rfl
 | cons p ps=>exact .inr ⟨p++zft ps,by simp [zft]⟩
theorem zfx:∀(p q X Y:List UInt8),(47:UInt8)∉p->(47:UInt8)∉q->zfv X->zfv Y->z2z (p++X) (q++Y)=if Lib.compareBytes p q=0 then z2z X Y else Lib.compareBytes p q
 | [],[],X,Y,_,_,_,_=>by simp [Lib.compareBytes]
 | [],b :: q,X,Y,_,hq,hX,_=>by
  have hb:b≠47:=fun e=>hq (by rw[e];exact Zj ..)
  rcases hX with rfl | ⟨r,rfl⟩
  ·simp [Lib.compareBytes,z2z]
  ·simp [Lib.compareBytes,z2z]
   exact fun e=>absurd e.symm hb
 | a :: p,[],X,Y,hp,_,_,hY=>by
  have ha:a≠47:=fun e=>hp (by rw[e];exact Zj ..)
  rcases hY with rfl | ⟨r,rfl⟩
  ·simp [Lib.compareBytes,z2z]
  ·simp [Lib.compareBytes,z2z,ha]
 | a :: p,b :: q,X,Y,hp,hq,hX,hY=>by
  have ha:a≠47:=fun e=>hp (by rw[e];exact Zj ..)
  have hb:b≠47:=fun e=>hq (by rw[e];exact Zj ..)
  have ih:=zfx p q X Y (fun h=>hp (Zh _ h)) (fun h=>hq (Zh _ h)) hX hY;rw[List.cons_append,List.cons_append,z2z,Lib.compareBytes];by_cases e:a=b
  ·subst e;have hlt:¬ a<a:=by rw[UInt8.lt_iff_toNat_lt];omega
   rw[if_pos rfl,if_neg hlt,if_neg hlt];exact ih
  ·rw[if_neg e,if_neg ha,if_neg hb];by_cases hl:a<b
   ·rw[if_pos hl,if_pos hl];simp
   ·have hg:b<a:=by
     have:a.toNat≠b.toNat:=fun h=>e (UInt8.toNat_inj.1 h);rw[UInt8.lt_iff_toNat_lt] at hl |-;omega
    rw[if_neg hl,if_neg hl,if_pos hg];simp
theorem zfy:∀(ps qs:List (List UInt8)),(∀ p∈ps,(47:UInt8)∉p)->(∀ q∈qs,(47:UInt8)∉q)->z2z (zft ps) (zft qs)=zfs ps qs
 | [],[],_,_=>rfl
 | [],q :: qs,_,_=>by simp [zft,z2z,zfs]
 | p :: ps,[],_,_=>by simp [zft,z2z,zfs]
 | p :: ps,q :: qs,hp,hq=>by
  have ih:=zfy ps qs (fun x hx=>hp x (Zh _ hx)) (fun x hx=>hq x (Zh _ hx));rw[zft,zft,List.cons_append,List.cons_append,z2z,if_pos rfl,zfx p q _ _ (hp p (Zj ..)) (hq q (Zj ..)) (zfw _) (zfw _),zfs,ih]
theorem zfz {l:List UInt8}{least:Nat}{ps:List (List UInt8)}(h:z2w l least=some ps):l=47 :: zft ps/\∀ p∈ps,(47:UInt8)∉p:=by
 unfold z2w at h;split at h
 ·rename_i hc
  injection h with h
  subst h;have hp:=hc.1;have hl:l=47 :: 47 :: l.drop 2:=by
   match l,hp with
   | [],hp=>simp [Lib.hasPrefix] at hp
   | [a],hp=>simp [Lib.hasPrefix] at hp
   | a :: b :: r,hp =>
    simp [Lib.hasPrefix] at hp
    obtain⟨rfl,rfl⟩:=hp;rfl
  have hj:=z1m (l.drop 2);refine⟨?_,fun p hp=>(z1i hp).1⟩;cases hs:z1e (l.drop 2) with
  | nil=>exact absurd hs (z1f _)
  | cons p ps =>
   rw[<- zfu,<- hs,hj];exact hl
 ·cases h
theorem zg0 {a b:zA}{ps qs:List (List UInt8)}(ha:z2w a.data.toList 2=some ps)(hb:z2w b.data.toList 2=some qs):z30 a b=zfs ps qs:=by
 have va:z2y a=true:=by unfold z2y z2x;rw[ha];rfl
 have vb:z2y b=true:=by unfold z2y z2x;rw[hb];rfl
 obtain⟨a1,a2⟩:=zfz ha;obtain⟨b1,b2⟩:=zfz hb;rw[z6p va vb,a1,b1,z2z,if_pos rfl,zfy ps qs a2 b2]
theorem zg1 (a b:zA)(w:zW):Calls prog 172 #[zS a,zS b] w fun e w'=>e=.returned (zI (Lib.compareBytes a.data.toList b.data.toList))/\w=w':=
 (Tryz.strings_Compare a b w).mono fun e w' ⟨h1,h2⟩=>⟨h1,h2.symm⟩
def zg2 (ps qs:List (List UInt8))(k:Nat):Prop:=zfs (ps.drop k) (qs.drop k)=zfs ps qs
theorem zg3 {ps qs:List (List UInt8)}{k:Nat}(h1:k<ps.length)(h2:k<qs.length)(h:zg2 ps qs k):(Lib.compareBytes ps[k] qs[k]=0->zg2 ps qs (k+1))/\(Lib.compareBytes ps[k] qs[k]≠0->zfs ps qs=Lib.compareBytes ps[k] qs[k]):=by
 unfold zg2 at h |-
 rw[Zo h1,Zo h2,zfs] at h;refine⟨fun h0=>?_,fun h0=>?_⟩
 ·rw[if_pos h0] at h;exact h
 ·rw[if_neg h0] at h;exact h.symm
theorem zg4 {ps qs:List (List UInt8)}{k:Nat}(h:zg2 ps qs k)(hk:k<=ps.length)(hk2:k<=qs.length)(he:k=ps.length\/k=qs.length):zfs ps qs=if ps.length<qs.length then -1 else if qs.length<ps.length then 1 else 0:=by
 unfold zg2 at h;rw[<- h];rcases he with rfl | rfl
 ·rw[Yd];by_cases hq:ps.length<qs.length
  ·rw[if_pos hq,Zo hq];rfl
  ·have:ps.length=qs.length:=by omega
   rw[if_neg hq,if_neg (by omega),this,Yd];rfl
 ·rw[Yd];by_cases hq:qs.length<ps.length
  ·rw[if_neg (by omega),if_pos hq,Zo hq];rfl
  ·have:ps.length=qs.length:=by omega
   rw[if_neg (by omega),if_neg hq,<- this,Yd];rfl
theorem zg5 (ps qs:List (List UInt8))(g1 g2:Nat)(w:zW)(hp:z9l w g1 0 ps)(hq:z9l w g2 0 qs)(h1:ps.length<=2000001)(h2:qs.length<=2000001):
  Calls prog 173 #[zL (some ⟨g1,0,none⟩) ps.length ps.length,zL (some ⟨g2,0,none⟩) qs.length qs.length] w fun e w'=>e=.returned (zI (zfs ps qs))/\zB w w':=by
 have HP:=hd_ hp;have HQ:=hd_ hq;have HC:=hd_ (fun a b X=>zg1 a b X);clear hp hq;go_enter func173,ntmps173;go_wp2_with fail;go_loopw [5] (fun s wr=>∃ k:Nat,s=zI k/\k<=ps.length/\k<=qs.length/\Hid (zg2 ps qs k/\zB w wr)) (fun s _=>ps.length - (intOf s).toNat)
 exact⟨0,rfl,Zg _,Zg _,rfl,Zb _ _⟩
 obtain⟨k,rfl,hk,hk2,HI⟩:=hrel;by_cases hlt:k<ps.length
 ·by_cases hlt2:k<qs.length
  ·have hx:wr.cell? ⟨g1,k,none⟩=some (zS (baL ps[k])):=by
    have h:=HP.out k hlt;rw[ZV] at h;exact z04 h HI.2 (z03 h)
   have hy:wr.cell? ⟨g2,k,none⟩=some (zS (baL qs[k])):=by
    have h:=HQ.out k hlt2;rw[ZV] at h;exact z04 h HI.2 (z03 h)
   have HN:=hd_ (zg3 hlt hlt2 HI.1);have z1:(k:Int)<(ps.length:Int):=by omega
   have z2:(k:Int)<(qs.length:Int):=by omega
   have d1:decide (k<ps.length)=true:=by simp;omega
   have d2:decide (k<qs.length)=true:=by simp;omega
   generalize ps[k]=x at hx HN;generalize qs[k]=y at hy HN;go_wp2_with fail;go_quiet ((go_at_call 172;exact z3q (zg1 _ _ _)))
   clear hx hy d1 d2;have HB:Hid (zB w (wr.drewN nq)):=hd_ (z0p HI.2 nq);generalize wr.drewN nq=wz at HB |-;rw[z9b,z9b];by_cases h0:Lib.compareBytes x y=0
   ·have HA:=hd_ (HN.1 h0);rw[h0];clear h0 HN;go_wp2_with fail;go_roundw
    exact⟨k+1,by go_num,by omega,by omega,HA,HB⟩
    simp [intOf];omega
   ·have HA:=hd_ (HN.2 h0);have q:(Lib.compareBytes x y != 0)=true:=by simpa using h0
    generalize Lib.compareBytes x y=c at HA q;clear h0 HN;go_wp2_with fail;go_ret;exact⟨by rw[HA.out];rfl,HB⟩
  ·have d1:decide (k<ps.length)=true:=by simp;omega
   have d2:decide (k<qs.length)=false:=by simp;omega
   have HA:=hd_ (zg4 HI.1 hk hk2 (.inr (by omega)))
   have d3:decide (ps.length<qs.length)=false:=by simp;omega
   have d4:decide (qs.length<ps.length)=true:=by simp;omega
   have HV:Hid ((if ps.length<qs.length then (-1:Int) else if qs.length<ps.length then 1 else 0)=1):=hd_ (by rw[if_neg (by omega),if_pos (by omega)])
   go_wp2_with fail;go_ret;exact⟨by rw[HA.out,HV.out];rfl,HI.2⟩
 ·have d1:decide (k<ps.length)=false:=by simp;omega
  have HA:=hd_ (zg4 HI.1 hk hk2 (.inl (by omega)))
  by_cases hq:ps.length<qs.length
  ·have d3:decide (ps.length<qs.length)=true:=by simp;omega
   have HV:Hid ((if ps.length<qs.length then (-1:Int) else if qs.length<ps.length then 1 else 0)=-1):=hd_ (by rw[if_pos (by omega)])
   go_wp2_with fail;go_ret;exact⟨by rw[HA.out,HV.out];rfl,HI.2⟩
  ·have d3:decide (ps.length<qs.length)=false:=by simp;omega
   have d4:decide (qs.length<ps.length)=false:=by simp;omega
   have HV:Hid ((if ps.length<qs.length then (-1:Int) else if qs.length<ps.length then 1 else 0)=0):=hd_ (by rw[if_neg (by omega),if_neg (by omega)])
   go_wp2_with fail;go_ret;exact⟨by rw[HA.out,HV.out];rfl,HI.2⟩
def OrdPost (w:zW)(a b:zA)(e:Ending)(w':zW):Prop:=∃ n:Int,e=.returned (zI n)/\zB w w'/\(z2y a=true->z2y b=true->n=z30 a b)
theorem zg6 {a:zA}(h:z2w a.data.toList 2=none):z2y a=false:=by unfold z2y z2x;rw[h];rfl
def zg7 (a b:zA):Int:=match z2w a.data.toList 2,z2w b.data.toList 2 with
 | none,none=>Lib.compareBytes a.data.toList b.data.toList
 | none,some _=>-1
 | some _,none=>1
 | some ps,some qs=>zfs ps qs
theorem zg8 {a b:zA}(ha:z2y a=true)(hb:z2y b=true):zg7 a b=z30 a b:=by
 unfold zg7;cases hda:z2w a.data.toList 2 with
 | none=>rw[zg6 hda] at ha;cases ha
 | some ps =>
  cases hdb:z2w b.data.toList 2 with
  | none=>rw[zg6 hdb] at hb;cases hb
  | some qs=>exact (zg0 hda hdb).symm
theorem zg9 (a b:zA)(w:zW)(he:Env w)(ha:a.size<=2000000)(hb:b.size<=2000000):
  Calls prog 114 #[zS a,zS b] w fun e w'=>e=.returned (zI (zg7 a b))/\zB w w':=by
 have HE:=hd_ he;clear he;have HC:=hd_ (fun a b X=>zg1 a b X);cases hda:z2w a.data.toList 2 with
 | none =>
  have HVA:=hd_ (zg6 hda);have HA:=hd_ (za3 a w HE ha hda);cases hdb:z2w b.data.toList 2 with
  | none =>
   have HB:=hd_ (fun X (hX:zB w X)=>za3 b X (HE.kw hX) hb hdb);have HF:Hid (zg7 a b=Lib.compareBytes a.data.toList b.data.toList):=hd_ (by unfold zg7;rw[hda,hdb])
   clear hda hdb;go_enter func114,ntmps114;go_wp2_with fail;refine HA.mono ?_;rintro e w1 ⟨rfl,hb1⟩;have HB1:=hd_ (HB w1 hb1);have H1:=hd_ hb1;clear hb1;go_wp2_with fail;refine HB1.mono ?_;rintro e w2 ⟨rfl,hb2⟩;have H2:=hd_ hb2;clear hb2;go_wp2_with fail;refine (HC a b w2).mono ?_;rintro e w3 ⟨rfl,rfl⟩;go_wp2_with fail;go_ret;exact⟨z3b HF.symm,z0r H1 H2⟩
  | some qs =>
   have HB:=hd_ (fun X (hX:zB w X)=>za2 b qs X (HE.kw hX) hb hdb);have HF:Hid (zg7 a b=-1):=hd_ (by unfold zg7;rw[hda,hdb])
   clear hda hdb;go_enter func114,ntmps114;go_wp2_with fail;refine HA.mono ?_;rintro e w1 ⟨rfl,hb1⟩;have HB1:=hd_ (HB w1 hb1);have H1:=hd_ hb1;clear hb1;go_wp2_with fail;refine HB1.mono ?_;rintro e w2 ⟨rfl,rfl⟩;have H2:Hid (zB w1 (w1.alloc (.cells (z9a qs).toArray 9))):=hd_ (zR);generalize w1.alloc (.cells (z9a qs).toArray 9)=w2 at H2 |-;go_wp2_with fail;go_ret;exact⟨z3b HF.symm,z0r H1 H2⟩
 | some ps =>
  have HA:=hd_ (za2 a ps w HE ha hda);have hA1:zB w (w.alloc (.cells (z9a ps).toArray 9)):=zR;have hS1:=z9l.of_blk (z0l w (z9a ps) 9);cases hdb:z2w b.data.toList 2 with
  | none =>
   have HVB:=hd_ (zg6 hdb);have HB:=hd_ (fun X (hX:zB w X)=>za3 b X (HE.kw hX) hb hdb);have HF:Hid (zg7 a b=1):=hd_ (by unfold zg7;rw[hda,hdb])
   clear hda hdb;go_enter func114,ntmps114;go_wp2_with fail;refine HA.mono ?_;rintro e w1 ⟨rfl,rfl⟩;have HB1:=hd_ (HB _ hA1);have H1:=hd_ hA1;clear hA1 hS1;generalize w.alloc (.cells (z9a ps).toArray 9)=w1 at HB1 H1 |-;go_wp2_with fail;refine HB1.mono ?_;rintro e w2 ⟨rfl,hb2⟩;have H2:=hd_ hb2;clear hb2;go_wp2_with fail;go_ret;exact⟨z3b HF.symm,z0r H1 H2⟩
  | some qs =>
   have HB:=hd_ (fun X (hX:zB w X)=>za2 b qs X (HE.kw hX) hb hdb);have HCM:=hd_ (zg0 hda hdb);have hlp:ps.length<=2000001/\qs.length<=2000001:=by
    have k1:ps=z1e (a.data.toList.drop 2):=by unfold z2w at hda;split at hda;(injection hda with h;exact h.symm);cases hda
    have k2:qs=z1e (b.data.toList.drop 2):=by unfold z2w at hdb;split at hdb;(injection hdb with h;exact h.symm);cases hdb
    rw[k1,k2];exact⟨(z9y a 2 ha).1,(z9y b 2 hb).1⟩
   have HLP:=hd_ hlp;have HF:Hid (zg7 a b=zfs ps qs):=hd_ (by unfold zg7;rw[hda,hdb])
   clear hda hdb hlp;go_enter func114,ntmps114;go_wp2_with fail;refine HA.mono ?_;rintro e w1 ⟨rfl,rfl⟩;have HB1:=hd_ (HB _ hA1);have H1:=hd_ hA1;have HS1:=hd_ hS1;clear hA1 hS1;generalize w.alloc (.cells (z9a ps).toArray 9)=w1 at HB1 H1 HS1 |-;go_wp2_with fail;refine HB1.mono ?_;rintro e w2 ⟨rfl,rfl⟩;have hA2:zB w1 (w1.alloc (.cells (z9a qs).toArray 9)):=zR;have HS2:=hd_ (z9l.of_blk (z0l w1 (z9a qs) 9));have HS3:=hd_ (HS1.kw hA2);have H2:=hd_ hA2;clear hA2;generalize w1.alloc (.cells (z9a qs).toArray 9)=w2 at HS2 HS3 H2 |-;have HCP:=hd_ (zg5 ps qs w.heap.size w1.heap.size w2 HS3 HS2 HLP.1 HLP.2);go_wp2_with fail;refine HCP.mono ?_;rintro e w3 ⟨rfl,hb3⟩;have H3:=hd_ hb3;clear hb3;go_wp2_with fail;go_ret;exact⟨z3b HF.symm,z0r H1 (z0r H2 H3)⟩
theorem zga (a b:zA)(w:zW)(he:Env w)(ha:a.size<=2000000)(hb:b.size<=2000000):
  Calls prog 114 #[zS a,zS b] w (OrdPost w a b):=
 (zg9 a b w he ha hb).mono fun e w' ⟨h1,h2⟩=>⟨_,h1,h2,fun h3 h4=>zg8 h3 h4⟩
theorem at_any (revs:List Rev)(q:zA)(m:Int)(dv dr:zV)(w:zW)(hR:z3w w dv revs)(hl:revs.length<=1000000):
  Calls prog 26 #[.agg #[dv,dr],zS q,zI m] w
   fun e w'=>e=.returned (.tuple #[.agg #[zS (zf8 (z38 revs q (fun v:Rev=>decide (v.chg<=m)))).kt,zI (zf8 (z38 revs q (fun v:Rev=>decide (v.chg<=m)))).num,zI (zf8 (z38 revs q (fun v:Rev=>decide (v.chg<=m)))).chg,zI (zf8 (z38 revs q (fun v:Rev=>decide (v.chg<=m)))).act,zI (zf8 (z38 revs q (fun v:Rev=>decide (v.chg<=m)))).ty.base,.bool (zf8 (z38 revs q (fun v:Rev=>decide (v.chg<=m)))).ty.k,.bool (zf8 (z38 revs q (fun v:Rev=>decide (v.chg<=m)))).ty.l,.bool (zf8 (z38 revs q (fun v:Rev=>decide (v.chg<=m)))).ty.x,.int .u64 (zf8 (z38 revs q (fun v:Rev=>decide (v.chg<=m)))).sum,zI (zf8 (z38 revs q (fun v:Rev=>decide (v.chg<=m)))).size,zS (zf8 (z38 revs q (fun v:Rev=>decide (v.chg<=m)))).frm,zI (zf8 (z38 revs q (fun v:Rev=>decide (v.chg<=m)))).fnum],.bool (z38 revs q (fun v:Rev=>decide (v.chg<=m))).isSome])/\zB w w':=by
 have HR:=hd_ hR;obtain⟨Ar,cr,rfl,-⟩:=hR;obtain⟨dv,hdv⟩:∃ v,zL Ar revs.length cr=v:=⟨_,rfl⟩;have hb0:zB w (((w.alloc (zC #[(zL Ar revs.length cr),dr] 27)).alloc (zC #[zI m] 3)).alloc (zC #[zS ⟨#[]⟩,zI 0,zI 0,zI 0,zI 0,.bool false,.bool false,.bool false,.int .u64 0,zI 0,zS ⟨#[]⟩,zI 0] 78)):=(((zR).alloc (by simp) _).alloc (by simp;omega) _)
 have hZ:Blk (((w.alloc (zC #[(zL Ar revs.length cr),dr] 27)).alloc (zC #[zI m] 3)).alloc (zC #[zS ⟨#[]⟩,zI 0,zI 0,zI 0,zI 0,.bool false,.bool false,.bool false,.int .u64 0,zI 0,zS ⟨#[]⟩,zI 0] 78)) (w.heap.size+1+1) 78 [zS ⟨#[]⟩,zI 0,zI 0,zI 0,zI 0,.bool false,.bool false,.bool false,.int .u64 0,zI 0,zS ⟨#[]⟩,zI 0]:=by
  have h1:=z0l ((w.alloc (zC #[(zL Ar revs.length cr),dr] 27)).alloc (zC #[zI m] 3)) [zS ⟨#[]⟩,zI 0,zI 0,zI 0,zI 0,.bool false,.bool false,.bool false,.int .u64 0,zI 0,zS ⟨#[]⟩,zI 0] 78;simp only[Zl] at h1
  exact h1
 have hcell:(((w.alloc (zC #[(zL Ar revs.length cr),dr] 27)).alloc (zC #[zI m] 3)).alloc (zC #[zS ⟨#[]⟩,zI 0,zI 0,zI 0,zI 0,.bool false,.bool false,.bool false,.int .u64 0,zI 0,zS ⟨#[]⟩,zI 0] 78)).cell? ⟨w.heap.size+1,0,none⟩=some (zI m):=by
  have h1:=(z0l (w.alloc (zC #[(zL Ar revs.length cr),dr] 27)) [zI m] 3).alloc (zC #[zS ⟨#[]⟩,zI 0,zI 0,zI 0,zI 0,.bool false,.bool false,.bool false,.int .u64 0,zI 0,zS ⟨#[]⟩,zI 0] 78);simp only[Zl] at h1
  exact h1.cell 0
 have HC:=hd_ (zh2 revs q m (w.heap.size+1) (zL Ar revs.length cr) dr _ (HR.kw hb0) hcell hl);clear hdv dv hcell;generalize z38 revs q (fun v:Rev=>decide (v.chg<=m))=o at HC |-;generalize zf8 o=r at HC |-;go_enter func26,ntmps26;go_wp2_with fail;refine HC.mono ?_;rintro e w1 ⟨rfl,hb1⟩;have hZ1:=hZ.kw hb1 hZ.lt;have hbw1:=z0r hb0 hb1;obtain⟨z0,z1,z2,z3,z4,z5,z6,z7,z8,z9,z10,z11⟩:=z57 hZ1;obtain⟨y0,y1,y2,y3,y4,y5,y6,y7,y8,y9,y10,y11⟩:=zf0 hZ1;clear hb1;go_wp2_with fail;have hZ3:=zf1 hZ1 r;have hB3:=zf2 hbw1 (show w.heap.size<=w.heap.size+1+1 by omega) r
 generalize ((((((((((((w1.setCell ⟨w.heap.size+1+1,0,none⟩ (zS r.kt)).setCell ⟨w.heap.size+1+1,1,none⟩ (zI r.num)).setCell ⟨w.heap.size+1+1,2,none⟩ (zI r.chg)).setCell ⟨w.heap.size+1+1,3,none⟩ (zI r.act)).setCell ⟨w.heap.size+1+1,4,none⟩ (zI r.ty.base)).setCell ⟨w.heap.size+1+1,5,none⟩ (.bool r.ty.k)).setCell ⟨w.heap.size+1+1,6,none⟩ (.bool r.ty.l)).setCell ⟨w.heap.size+1+1,7,none⟩ (.bool r.ty.x)).setCell ⟨w.heap.size+1+1,8,none⟩ (.int .u64 r.sum)).setCell ⟨w.heap.size+1+1,9,none⟩ (zI r.size)).setCell ⟨w.heap.size+1+1,10,none⟩ (zS r.frm)).setCell ⟨w.heap.size+1+1,11,none⟩ (zI r.fnum))=W3 at hZ3 hB3 |-;obtain⟨e0,e1,e2,e3,e4,e5,e6,e7,e8,e9,e10,e11⟩:=z57 hZ3;exact bodyPost_ret (v:=.tuple #[.agg #[zS r.kt,zI r.num,zI r.chg,zI r.act,zI r.ty.base,.bool r.ty.k,.bool r.ty.l,.bool r.ty.x,.int .u64 r.sum,zI r.size,zS r.frm,zI r.fnum],.bool o.isSome]) (by simp [results,results26,go_sem,e0,e1,e2,e3,e4,e5,e6,e7,e8,e9,e10,e11]) rfl ⟨rfl,hB3⟩
structure PatOk (p:Pat):Prop where
 pos:0<p.kp.length
 one:p.kp.length=1->p.kr=true
 ok:∀ x∈p.kp,okS x
 fst:∀ h:0<p.kp.length,z8r p.kp[0]=false
 len:p.kp.length<=12
theorem zic {s:zA}(h:okS s):z8t s=2↔z8r s=true:=by
 rcases zi2 h with⟨a,b⟩ | ⟨a,b⟩
 ·refine⟨fun _=>a,fun _=>?_⟩;unfold z8t;have hn:¬ z0z s=true:=fun hc=>by
   have:=(zhy.1 hc).2;rw[zh8 a] at this;unfold okL at this;rw[List.all_cons,Zw] at this;exact absurd this.1 (by decide)
  rw[if_neg hn,if_pos a,if_pos (zhz.2 b)]
 ·refine⟨fun e=>?_,fun e=>by rw[a] at e;cases e⟩
  unfold z8t at e;rw[if_pos b] at e;exact absurd e (by decide)
theorem zid {p:Pat}:z8w p=0↔PatOk p:=by
 constructor
 ·intro h;have hlen:=zcc h;have h1:¬(p.kp.length=0\/(p.kp.length=1/\p.kr=false)):=fun hc=>by
   unfold z8w at h;rw[if_pos hc] at h;exact absurd h (by decide)
  have h2:z8v p.kp=true:=by
   cases e:z8v p.kp with
   | true=>rfl
   | false=>rw[z96 e] at h;exact absurd h (by decide)
  unfold z8v at h2;rw[ZB] at h2;have h3:∀ k (hk:k<p.kp.length),z8u k p.kp[k]=true:=fun k hk=>by
   have:=h2 k (List.mem_range.2 hk);rwa [Ze hk] at this
  have hok:∀ k (hk:k<p.kp.length),okS p.kp[k]:=fun k hk=>by
   have:=h3 k hk;unfold z8u at this;rw[Zw,decide_eq_true_eq] at this;exact this.1
  refine⟨by omega,fun e=>?_,fun x hx=>?_,fun h0=>?_,hlen⟩
  ·cases er:p.kr with
   | true=>rfl
   | false=>exact absurd (.inr ⟨e,er⟩) h1
  ·obtain⟨k,hk,rfl⟩:=ZF hx;exact hok k hk
  ·have:=h3 0 h0;unfold z8u at this;rw[Zw,Bool.not_eq_true',Bool.and_eq_false_iff] at this;cases e:z8r p.kp[0] with
   | false=>rfl
   | true =>
    have h2:=(zic (hok 0 h0)).2 e;rcases this.2 with h5 | h5
    ·exact absurd rfl (of_decide_eq_false h5)
    ·exact absurd h2 (of_decide_eq_false h5)
 ·intro h;have h2:z8v p.kp=true:=z8y fun j hj=>by
   have ho:=h.ok _ (Za hj);unfold z8u;rw[Zw,decide_eq_true_eq,Bool.not_eq_true',Bool.and_eq_false_iff];refine⟨ho,?_⟩;by_cases e:j=0
   ·subst e;right
    refine decide_eq_false fun e2=>?_;have:=(zic ho).1 e2;rw[h.fst hj] at this;cases this
   ·exact .inl (decide_eq_false e)
  have h1:¬(p.kp.length=0\/(p.kp.length=1/\p.kr=false)):=by
   rintro (e | ⟨e,e2⟩)
   ·have:=h.pos;omega
   ·rw[h.one e] at e2;cases e2
  rw[z97 h1 h2,if_neg (by have:=h.len;omega)]
theorem zie {p q m:Pat}(h:zc6 p q=some m):z8w m=0:=by
 obtain⟨w1,w2,e1,e2⟩:=zhw h;have hp:=zid.1 e1;have hq:=zid.1 e2;unfold zc6 at h;split at h
 ·cases e:zc3 (zc4 p q).kp (zc5 p q).kp with
  | none=>rw[e] at h;cases h
  | some l =>
   rw[e] at h;cases h
   obtain⟨l1,l2⟩:=zhs e;have hbs:(zc4 p q=p/\zc5 p q=q)\/(zc4 p q=q/\zc5 p q=p):=by unfold zc4 zc5;split <;> simp
   have hb:PatOk (zc4 p q)/\PatOk (zc5 p q):=by
    rcases hbs with⟨a,b⟩ | ⟨a,b⟩
    ·rw[a,b];exact⟨hp,hq⟩
    ·rw[a,b];exact⟨hq,hp⟩
   have hat:=zht e;have hmem:∀ k (hk:k<l.length),okS l[k]:=fun k hk=>by
    obtain⟨a,b⟩:=hat k hk (by omega)
    by_cases hy:k<(zc5 p q).kp.length
    ·rcases (zhg (a hy)).2.2 with e | e
     ·rw[e];exact hb.1.ok _ (Za _)
     ·rw[e];exact hb.2.ok _ (Za _)
    ·rw[b (by omega)];exact hb.1.ok _ (Za _)
   refine zid.2 ⟨by show 0<l.length;rw[l1];exact hb.1.pos,fun e1=>?_,fun x hx=>?_,fun h0=>?_,by show l.length<=12;rw[l1];exact hb.1.len⟩
   ·have e1:l.length=1:=e1;have a1:=hb.1.one (by omega)
    have a2:=hb.2.one (by have:=hb.2.pos;omega)
    show (p.kr && q.kr)=true
    rcases hbs with⟨a,b⟩ | ⟨a,b⟩
    ·rw[a] at a1;rw[b] at a2;rw[a1,a2];rfl
    ·rw[a] at a1;rw[b] at a2;rw[a1,a2];rfl
   ·obtain⟨k,hk,rfl⟩:=ZF hx;exact hmem k hk
   ·have h0:0<l.length:=h0;obtain⟨a,-⟩:=hat 0 h0 (by omega)
    show z8r l[0]=false
    rcases (zhg (a hb.2.pos)).2.2 with e | e
    ·rw[e];exact hb.1.fst _
    ·rw[e];exact hb.2.fst _
 ·cases h
def zif (l r m:Pat):Pat:=⟨zcl r.kp (zi7 l.kp m.kp)++(if r.kr then m.kp.drop l.kp.length else []),r.kr && m.kr⟩
def zig (l r m:Pat):Prop:=r.kr=true/\12<r.kp.length+(m.kp.length - l.kp.length)
theorem zih {l r m:Pat}(hr:zbw l r=0)(hw:Wi m l)(hm:z8w m=0)(hl:¬ zig l r m):z8w (zif l r m)=0/\Wi (zif l r m) r:=by
 have hr2:z8w l=0/\z8w r=0/\zbq l=zbq r/\l.kr=r.kr:=by
  unfold zbw at hr;by_cases a:z8w l=0
  ·by_cases b:z8w r=0
   ·by_cases c:zbq l≠zbq r\/l.kr≠r.kr
    ·rw[if_neg (fun h=>h a),if_neg (fun h=>h b),if_pos c] at hr;exact absurd hr (by decide)
    ·refine⟨a,b,?_,?_⟩
     ·exact Decidable.byContradiction fun h=>c (.inl h)
     ·exact Decidable.byContradiction fun h=>c (.inr h)
   ·rw[if_neg (fun h=>h a),if_pos b] at hr;exact absurd hr (by decide)
  ·rw[if_pos a] at hr;exact absurd hr (by decide)
 obtain⟨e1,e2,e3,e4⟩:=hr2;have hlo:=zid.1 e1;have hro:=zid.1 e2;have hmo:=zid.1 hm;have hbo:=zi9 l.kp m.kp hw.le hmo.ok (fun k h _=>hw.all k h);have hbl:(r.kp.filter z8r).length<=(zi7 l.kp m.kp).length:=by
  rw[zi8];exact Nat.le_of_eq e3.symm
 have hfi:=zib r.kp (zi7 l.kp m.kp) hbl hro.ok hbo;have hfl:=zia r.kp (zi7 l.kp m.kp);have htl:(if r.kr then m.kp.drop l.kp.length else []).length=if r.kr then m.kp.length - l.kp.length else 0:=by split <;> simp
 have hcl:(zif l r m).kp.length=r.kp.length+if r.kr then m.kp.length - l.kp.length else 0:=by
  show (_++_:List zA).length=_
  rw[Zc,hfl,htl]
 have hrest:(r.kr=true/\((zif l r m).kr=true\/r.kp.length<(zif l r m).kp.length))\/(r.kr=false/\(zif l r m).kr=false/\(zif l r m).kp.length=r.kp.length):=by
  cases hrr:r.kr with
  | true =>
   refine .inl ⟨rfl,?_⟩;rw[hcl,hrr,if_pos rfl];rcases zhp hw with⟨a,b⟩ | ⟨a,-,-⟩
   ·rcases b with b | b
    ·left;show (r.kr && m.kr)=true;rw[hrr,b];rfl
    ·right;omega
   ·rw[e4,hrr] at a;cases a
  | false=>exact .inr ⟨rfl,by show (r.kr && m.kr)=false;rw[hrr];rfl,by rw[hcl,hrr];rfl⟩
 have hat:∀(k:Nat) (h:k<r.kp.length) (h2:k<(zif l r m).kp.length),okS (zif l r m).kp[k]/\zbl (zif l r m).kp[k] r.kp[k]=true:=fun k h h2=>by
  have:(zif l r m).kp[k]=(zcl r.kp (zi7 l.kp m.kp))[k]'(by omega):=by
   exact List.getElem_append_left (bs:=if r.kr then m.kp.drop l.kp.length else []) (by omega)
  rw[this];exact hfi k (by omega) h
 refine⟨zid.2 ⟨by rw[hcl];have:=hro.pos;omega,fun e=>?_,fun x hx=>?_,fun h0=>?_,?_⟩,zhq (by rw[hcl];omega) hrest (fun k h=>(hat k h _).2)⟩
 ·rcases hrest with⟨a,b⟩ | ⟨a,b,c⟩
  ·rcases b with b | b
   ·exact b
   ·have:=hro.pos;omega
  ·rw[hro.one (by omega)] at a;cases a
 ·have hx:x∈zcl r.kp (zi7 l.kp m.kp)++(if r.kr then m.kp.drop l.kp.length else []):=hx;rcases Zy.1 hx with h | h
  ·obtain⟨k,hk,rfl⟩:=ZF h;exact (hfi k hk (by omega)).1
  ·split at h
   ·exact hmo.ok x (ZW h)
   ·cases h
 ·have h9:=hro.pos;have h1:=(hat 0 h9 h0).2;have h2:=hro.fst h9;by_cases e:(zif l r m).kp[0]=r.kp[0]
  ·rw[e];exact h2
  ·have:=(zhb h1 e).1;rw[h2] at this;cases this
 ·rw[hcl];cases hrr:r.kr with
  | true =>
   rw[if_pos rfl];exact Nat.le_of_not_lt fun h=>hl ⟨hrr,h⟩
  | false=>exact hro.len
open Go.Sort (grow)
theorem zno (r:List Syn)(k:Nat)(hk:k<r.length):(r.take (k+1)).flatMap z67=(r.take k).flatMap z67++z67 r[k]:=by
 rw[Zr hk,z6i]
theorem znp (x:Syn):(z66 x).length<=1:=by unfold z66;split <;> simp
theorem znq (x:Syn):(z67 x).length<=1:=by unfold z67;split;simp;exact znp x
theorem znr (l:List Syn):(l.flatMap z67).length<=l.length:=by
 induction l with
 | nil=>simp
 | cons x l ih=>rw[ZG,Zc,Zz];have:=znq x;omega
theorem room40 {n:Nat}(h:n<=1000000):n * 40<=140737488355328:=Zf (Ye 40 h) (by decide)
theorem zns (O:List Hav)(r:List Syn)(hl:O.length+r.length+1<=1000000)(k:Nat):((O++(r.take k).flatMap z67).length+1) * 40<=140737488355328:=by
 have:=znr (r.take k);rw[ZK] at this;have h2:(O++(r.take k).flatMap z67).length=O.length+((r.take k).flatMap z67).length:=Zc;exact room40 (by omega)
theorem rsT17 (T:Code)(hT:Tryz.f75.body.bind (tailAt 17)=some T)(R:Ending->zW->Prop)(w0 w:zW)(O:List Hav)(r:List Syn)(v:zV)(A1:zP)(c1:Nat)
  (hA:Aft w0 w w0.heap.size O v) (hS:z6d w0 (zL A1 r.length c1) r) (hl:O.length+r.length+1<=1000000)
  (hRR:∀ v' X,Aft w0 X w0.heap.size (O++r.flatMap z67) v'->R (.returned v') X)
  (u0 u2 u3 u4 u7 u8 u9 gF gG gH gI gJ gK gL gM gN gO gP gQ gR gT gV gW gX gY gZ i6 i7 i8 ia ib ic ie ig ii ij ik il im io ip iq ir iu iv iw iy iz iA iB iC iD iE iF iG iH iI iJ iK iL iM iN iO iP iQ iR iS iT iU iV iW iX iY iZ j0 j1 j2 j9 jb jd je jf jg jh ji jj:zV):
  T.wp prog (bodyPost prog Tryz.f75 R) ⟨#[u0,zL A1 r.length c1,u2,u3,u4,.pointer (some ⟨w0.heap.size,0,none⟩),.func (.func 129) #[] #[.pointer (some ⟨w0.heap.size,0,none⟩)],u7,u8,u9,gF,gG,gH,gI,gJ,gK,gL,gM,gN,gO,gP,gQ,gR,gT,gV,gW,gX,gY,gZ,i6,i7,i8,ia,ib,ic,ie,ig,ii,ij,ik,il,im,io,ip,iq,ir,iu,iv,iw,iy,iz,iA,iB,iC,iD,iE,iF,iG,iH,iI,iJ,iK,iL,iM,iN,iO,iP,iQ,iR,iS,iT,iU,iV,iW,iX,iY,iZ,j0,j1,j2,j9,jb,jd,je,jf,jg,jh,ji,jj],[]⟩ w:=by
 simp only[Tryz.f75,Zp,tailAt,hasReg] at hT
 simp at hT
 subst hT;obtain⟨A2,c2,e2,hc,hm,-⟩:=id hS;have hm':r.length<=140737488355328:=by omega
 clear hc hm e2 A2 c2;have HRR:=hd_ hRR;have HS:=hd_ hS;have HA:=hd_ hA;have HL:=hd_ (zns O r hl);clear hRR hS hA hl;go_wp2_with fail;go_loopw [77] (fun i wr=>∃(k:Nat) (v':zV),k<=r.length/\i=zI k/\Hid (Aft w0 wr w0.heap.size (O++(r.take k).flatMap z67) v')) (fun i _=>r.length - (intOf i).toNat)
 exact⟨0,v,Zg _,rfl,hd_ (by rw[List.take_zero,List.flatMap_nil,ZM];exact HA)⟩
 obtain⟨k,v',hk,rfl,HI⟩:=hrel;clear HA;by_cases hlt:k<r.length
 ·obtain⟨ad,rfl,hab,y0,y1,y2,y3,y4⟩:=z6d.at_ (HS.out.kw HI.out.bel) hlt;have HST:=hd_ (zno r k hlt);have HLK:=hd_ (HL k);generalize r[k]=x at y0 y1 y2 y3 y4 HST;have HX:=hd_ (HI.alloc (zC #[zI x.kind,zS x.kt,zI x.num,zS x.frm,zS x.dst] 99));obtain⟨z0,z1,z2,z3,z4⟩:=z5g (x:=x) (z0l wr [zI x.kind,zS x.kt,zI x.num,zS x.frm,zS x.dst] 99);have HSY:=hd_ (z5j x (wr.alloc (zC #[zI x.kind,zS x.kt,zI x.num,zS x.frm,zS x.dst] 99)));cases hst:z5d x.kind with
  | true =>
   have HP:Hid (z67 x=[]):=hd_ (by unfold z67;rw[hst];rfl)
   rw[hst] at HSY;clear hst;go_wp2_with fail;refine HSY.mono ?_;rintro e w' ⟨rfl,hb⟩;have HX2:=hd_ (HX.ku hb);clear hb;go_wp2_with fail;go_roundw
   exact⟨k+1,v',by omega,by go_num,by rw[HST.out,HP.out,ZM];exact HX2⟩
   simp [intOf];omega
  | false =>
   have HP:Hid (z67 x=z66 x):=hd_ (by unfold z67;rw[hst];rfl)
   rw[hst] at HSY;clear hst;go_wp2_with fail;refine HSY.mono ?_;rintro e w' ⟨rfl,hb⟩;have HX2:=hd_ (HX.ku hb);have HB2:=hd_ ((z0l wr [zI x.kind,zS x.kt,zI x.num,zS x.frm,zS x.dst] 99).kw hb (by simp))
   clear hb;obtain⟨q0,q1,q2,q3,q4⟩:=z5g (x:=x) HB2.out;have HAD:=hd_ (z6k x w0 w' w0.heap.size _ v' HX2 HLK);go_wp2_with fail;refine HAD.mono ?_;rintro e w3 ⟨rfl,v3,h3,h4⟩;have HX3:=hd_ h3;clear h3 h4;go_wp2_with fail;go_roundw
   exact⟨k+1,v3,by omega,by go_num,by rw[HST.out,HP.out,<- ZE];exact HX3⟩
   simp [intOf];omega
 ·have hbx:wr.cell? ⟨w0.heap.size,0,none⟩=some v':=HI.box.cell 0;have HT:Hid (r.take k=r):=hd_ (ZQ (by omega))
  have HR:=hd_ (HRR v' wr (by have:=HI.out;rw[HT.out] at this;exact this))
  go_wp2_with fail;exact HR
theorem z5s.ku {w w':zW}{v:zV}{l:List Hav}(h:z5s w v l)(hb:zB w w'):z5s w' v l:=Row.kw h hb
theorem zp8 (l:List Hav)(v:zV)(p:zA)(w:zW)(he:Env w)(hH:z5s w v l)(hv:∀ x∈l,z2y x.kt=true/\x.kt.size<=1000000)(hp:z2y p=true)(hz:p.size<=1000000)(hl:l.length<=1000000):
  Calls prog 61 #[v,zS p] w fun e w'=>e=.returned (.tuple #[zI (zou l p).1,.bool (zou l p).2])/\zB w w':=by
 obtain⟨A,c,rfl,-⟩:=id hH;have HE:=hd_ he;have HH:=hd_ hH;have HV:=hd_ hv;have HP:=hd_ hp;have HZ:=hd_ hz;clear he hH hv hp hz;go_enter func61,ntmps61;go_wp2_with fail;go_loopw [6] (fun i wr=>∃ k:Nat,i=zI k/\k<=l.length/\Hid ((∀ j (hj:j<l.length),j<k->l[j].kt≠p/\¬ 0<z30 l[j].kt p)/\zB w wr)) (fun i _=>l.length - (intOf i).toNat)
 exact⟨0,rfl,Zg _,hd_ ⟨fun j _ h=>by omega,Zb _ _⟩⟩
 obtain⟨k,rfl,hk,HI⟩:=hrel;by_cases hlt:k<l.length
 ·obtain⟨ad,rfl,hab,s0,-,-⟩:=z5s.at_ (HH.out.ku HI.out.2) hlt;have HVK:=hd_ (HV l[k] (Za hlt));have HAT:=hd_ (zox (p:=p) hlt HI.1);have HNX:Hid (l[k].kt≠p->¬ 0<z30 l[k].kt p->∀ j (hj:j<l.length),j<k+1->l[j].kt≠p/\¬ 0<z30 l[j].kt p):=hd_ fun h1 h2 j hj hjk=>by
   by_cases e:j=k
   ·subst e;exact⟨h1,h2⟩
   ·exact HI.1 j hj (by omega)
  generalize l[k].kt=q at s0 HVK HAT HNX;have HOR:=hd_ (zg9 q p wr (HE.kw HI.2) (by have:=HVK.out.2;omega) (by have:=HZ.out;omega))
  rw[zg8 HVK.out.1 HP.out] at HOR;have HB:=hd_ HI.2;have HLT:=hd_ hlt;by_cases h1:q=p
  ·have q1:(q.toList == p.toList)=true:=by rw[z5m,decide_eq_true h1]
   have HR:=hd_ (HAT.1 h1);clear h1;go_wp2_with fail;go_ret2;rw[HR.out];exact⟨rfl,HB⟩
  ·have q1:(q.toList == p.toList)=false:=by rw[z5m,decide_eq_false h1]
   have HN1:=hd_ h1;clear h1;obtain⟨n,hn⟩:∃ n,z30 q p=n:=⟨_,rfl⟩;have HN:=hd_ hn;rw[hn] at HOR;clear hn;by_cases h2:0<n
   ·have q2:decide (0<n)=true:=decide_eq_true h2;have HR:=hd_ (HAT.2 HN1 (by rw[HN.out];exact h2))
    clear h2;go_wp2_with fail;refine HOR.mono ?_;rintro e w2 ⟨rfl,hb⟩;have HB2:=hd_ (z0r HB hb);clear hb s0;go_wp2_with fail;go_ret2;rw[HR.out];exact⟨rfl,HB2⟩
   ·have q2:decide (0<n)=false:=decide_eq_false h2;have HR:=hd_ (HNX HN1 (by rw[HN.out];exact h2))
    clear h2;go_wp2_with fail;refine HOR.mono ?_;rintro e w2 ⟨rfl,hb⟩;have HB2:=hd_ (z0r HB hb);clear hb s0;go_wp2_with fail;go_roundw
    exact⟨k+1,by go_num,by have:=HLT.out;omega,hd_ ⟨fun j hj h=>⟨(HR j hj h).1,Int.not_lt.2 (HR j hj h).2⟩,HB2⟩⟩
    have:=HLT.out;simp [intOf];omega
 ·have hke:k=l.length:=by omega
  have HR:=hd_ (zoy (l:=l) (p:=p) fun j hj=>HI.1 j hj (by omega))
  have HB:=hd_ HI.2;subst hke;clear HI;go_wp2_with fail;go_ret2;rw[HR.out];exact⟨rfl,HB⟩
theorem zqg (ex:Bool)(l r:Pat)(s:zA)(A B:zP)(a b:Nat)(w:zW)(he:Env w)(hs:s.size<=1000000)(hl:zbx w (zL A l.kp.length a) l)(hr:zbx w (zL B r.kp.length b) r)(h1:z8w l=0)(h2:z8w r=0)(h3:zbq l=zbq r)(h4:l.kr=r.kr)(hf:∀ caps,zaj l s=some caps->zco r caps)
  (hF:∀ X caps cv,zB w X->z20 X cv caps->zco r caps->Calls prog 170 #[.agg #[zL B r.kp.length b,.bool r.kr],cv] X fun e w'=>e=.returned (.tuple #[zS (zcn r caps),zI 0])/\zB X w'):
  Calls prog 113 #[.agg #[.bool ex,zL A l.kp.length a,.bool l.kr,zL B r.kp.length b,.bool r.kr],zS s] w (zcw w (zcv l r s)):=by
 have hB:=z0l w [.bool ex,zL A l.kp.length a,.bool l.kr,zL B r.kp.length b,.bool r.kr] 62;have hA:zB w (w.alloc (zC #[.bool ex,zL A l.kp.length a,.bool l.kr,zL B r.kp.length b,.bool r.kr] 62)):=zR;have HC:=hd_ (fun X (hX:zB w X)=>zqf ex l r A B a b X (hl.kw hX) (hr.kw hX) h1 h2 h3 h4);have HM:=hd_ (fun X (hX:zB w X)=>zd6 l s A a X (he.kw hX) hs (hl.kw hX).1 hl.small);have HFI:=hd_ hF;have HF:=hd_ hf;have HR:Hid (zcv l r s=(zaj l s).map (zcn r)):=hd_ rfl;clear he hl hr hf hF h1 h2 h3 h4;generalize zcv l r s=o at HR |-;go_enter func113,ntmps113;go_upto_region 1 with fail;generalize w.alloc (zC #[.bool ex,zL A l.kp.length a,.bool l.kr,zL B r.kp.length b,.bool r.kr] 62)=W1 at hA hB |-;obtain⟨d0,d1,d2,d3,d4⟩:=(⟨hB.cell 0,hB.cell 1,hB.cell 2,hB.cell 3,hB.cell 4⟩:W1.cell? ⟨w.heap.size,0,none⟩=some (.bool ex)/\W1.cell? ⟨w.heap.size,1,none⟩=some (.slice A l.kp.length a)/\W1.cell? ⟨w.heap.size,2,none⟩=some (.bool l.kr)/\W1.cell? ⟨w.heap.size,3,none⟩=some (.slice B r.kp.length b)/\W1.cell? ⟨w.heap.size,4,none⟩=some (.bool r.kr));have HB:=hd_ hB;have HA:=hd_ hA;have HC1:=hd_ (HC W1 hA);clear hA hB HC;go_wp2_with fail;refine HC1.mono ?_;rintro e w2 ⟨rfl,hb⟩;dsimp only;have HX2:=hd_ (HB.kw hb HB.lt);have HB2:=hd_ (z0r HA hb);have HM2:=hd_ (HM w2 HB2);clear hb d0 d1 d2 d3 d4 HC1 HM HB;obtain⟨d1,d2⟩:=(⟨HX2.out.cell 1,HX2.out.cell 2⟩:w2.cell? ⟨w.heap.size,1,none⟩=some (.slice A l.kp.length a)/\w2.cell? ⟨w.heap.size,2,none⟩=some (.bool l.kr));go_wp2_with fail;refine HM2.mono ?_;rintro e w3 ⟨A3,n3,c3,rfl,hb,hm⟩;dsimp only;have HB3:=hd_ (z0r HB2 hb);have HX3:=hd_ (HX2.kw hb HX2.lt);clear hb d1 d2 HM2 HX2;cases hq:zaj l s with
 | none =>
  rw[hq] at HR;have HR2:Hid (o=none):=hd_ HR;clear hm hq HR;go_wp2_with fail;go_ret2;exact⟨by rw[HR2.out];rfl,HB3⟩
 | some caps =>
  rw[hq] at HR;have HR2:Hid (o=some (zcn r caps)):=hd_ HR;obtain⟨-,hst⟩:=hm caps hq;have HCA:=hd_ (HFI w3 caps _ HB3 hst (HF caps hq));clear hm hq HR hst HFI HF;obtain⟨d3,d4⟩:=(⟨HX3.out.cell 3,HX3.out.cell 4⟩:w3.cell? ⟨w.heap.size,3,none⟩=some (.slice B r.kp.length b)/\w3.cell? ⟨w.heap.size,4,none⟩=some (.bool r.kr));go_wp2_with fail;refine HCA.mono ?_;rintro e w4 ⟨rfl,hb⟩;dsimp only;have HB4:=hd_ (z0r HB3 hb);clear hb d3 d4 HCA;go_wp2_with fail;go_ret2;exact⟨by rw[HR2.out];rfl,HB4⟩
theorem zpe {x y:zA}(hy:z8r y=false):zbl x y=decide (x=y):=by
 unfold zbl;rw[hy];by_cases h:x=y
 ·rw[if_pos h,decide_eq_true h]
 ·rw[if_neg h,decide_eq_false h];rfl
theorem zpf {x y:zA}(hx:z8r x=true)(hy:z8r y=true):zbl x y=Lib.hasSuffix (za5 x).data.toList (za5 y).data.toList:=by
 unfold zbl;rw[hx,hy];by_cases h:x=y
 ·rw[if_pos h,h];symm
  unfold Lib.hasSuffix;exact List.isSuffixOf_iff_suffix.2 (List.suffix_refl _)
 ·rw[if_neg h];rfl
theorem zpg {x y:zA}(hx:z8r x=false)(hy:z8r y=true):zbl x y=za7 y x:=by
 unfold zbl;rw[hx,hy];rw[if_neg (fun h=>by rw[h,hy] at hx;cases hx)];rfl
theorem zph {x:zA}(h:z8t x≠0)(hx:z8r x=false):z0z x=true:=by
 unfold z8t at h;rw[hx] at h;cases hc:z0z x with
 | true=>rfl
 | false=>rw[hc] at h;exact absurd rfl h
theorem zpi (x y:zA)(w:zW)(hx:z8t x≠0)(hy:z8t y≠0)(zx:x.size<=30000000)(zy:y.size<=30000000):
  Calls prog 91 #[zS x,zS y] w fun e w'=>e=.returned (.bool (zbl x y))/\zB w w':=by
 have HX:=hd_ (fun X=>zbg x X (by unfold maxLen;omega))
 have HY:=hd_ (fun X=>zbg y X (by unfold maxLen;omega))
 have HC:=hd_ (fun X=>zbk y x X (by unfold maxLen;omega) (by unfold maxLen;omega))
 have HS:=hd_ (fun X=>zbi (za5 x) (za5 y) X _ (by unfold za5;rw[ByteArray.size_extract];omega) rfl)
 unfold zbd at HX HY;rw[zb4 hx] at HX;rw[zb4 hy] at HY;cases hsy:z8r y with
 | false =>
  have HR:=hd_ (zpe (x:=x) hsy);have HE:=hd_ (za9 x y);rw[hsy] at HY;clear hsy HC HS;generalize z8r x=sx at HX;generalize (if sx=true then za5 x else z2r)=ux at HX;go_enter func91,ntmps91;go_wp2_with fail;refine (HX _).mono ?_;rintro e w' ⟨rfl,rfl⟩;go_wp2_with fail;refine (HY _).mono ?_;rintro e w' ⟨rfl,rfl⟩;go_wp2_with fail;go_ret;exact⟨by rw[HR.out,<- HE.out];rfl,Zb _ _⟩
 | true =>
  cases hsx:z8r x with
  | true =>
   have HR:=hd_ (zpf hsx hsy);rw[hsy] at HY;rw[hsx] at HX;rw[if_pos rfl] at HX HY;clear hsy hsx HC;generalize za5 x=ux at HX HS HR;generalize za5 y=uy at HY HS HR;generalize Lib.hasSuffix ux.data.toList uy.data.toList=b at HS HR;go_enter func91,ntmps91;go_wp2_with fail;refine (HX _).mono ?_;rintro e w' ⟨rfl,rfl⟩;go_wp2_with fail;refine (HY _).mono ?_;rintro e w' ⟨rfl,rfl⟩;go_wp2_with fail;refine (HS _).mono ?_;rintro e w' ⟨rfl,rfl⟩;go_wp2_with fail;go_ret;exact⟨by rw[HR.out];rfl,Zb _ _⟩
  | false =>
   have HR:=hd_ (zpg hsx hsy);rw[zb9 hy (zph hx hsx)] at HC;rw[hsy] at HY;rw[hsx] at HX;clear hsy hsx HS;rw[if_pos rfl] at HY;generalize za5 y=uy at HY;generalize za7 y x=b at HC HR;generalize zb0 y x=c at HC;go_enter func91,ntmps91;go_wp2_with fail;refine (HX _).mono ?_;rintro e w' ⟨rfl,rfl⟩;go_wp2_with fail;refine (HY _).mono ?_;rintro e w' ⟨rfl,rfl⟩;go_wp2_with fail;refine (HC _).mono ?_;rintro e w' ⟨rfl,rfl⟩;go_wp2_with fail;go_ret;exact⟨by rw[HR.out];rfl,Zb _ _⟩
