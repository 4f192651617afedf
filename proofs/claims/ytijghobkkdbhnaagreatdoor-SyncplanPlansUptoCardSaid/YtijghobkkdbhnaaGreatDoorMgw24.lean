/- A part. -/
import Derived.Test.YtijghobkkdbhnaaGreatDoorMgw23
import Derived.Test.YtijghobkkdbhnaaGreatDoorMgw22
set_option linter.unusedVariables false
set_option linter.unusedSimpArgs false
set_option maxHeartbeats 8000000
set_option maxRecDepth 100000
namespace Go.Proofs.YtijghobkkdbhnaaGreatDoor
open Go.Proofs.Tryz
open Go.RowKit
structure zfz (es:List zdd):Prop where
 map:zdo es
 fits:∀ p∈zfm,zdz es p
 small:∀ p∈zfm,∀ s,zdy es p=some s→s.size≤200
theorem zg0:∀ x∈zfm,z2s x=true∧x.size≤1000000:=by decide +kernel
theorem zg1 {D:List Rev}{f:ByteArray→Option ByteArray}{m:Int}{p:ByteArray}(h:z30 D p (fun v:Rev=>decide (v.chg≤m))=none):zfq D f m p=none:=by unfold zfq;rw[h]
theorem zg2 {D:List Rev}{f:ByteArray→Option ByteArray}{m:Int}{p:ByteArray}{r:Rev}(h:z30 D p (fun v:Rev=>decide (v.chg≤m))=some r)(hl:z2v r.act=false):zfq D f m p=none:=by unfold zfq;rw[h];simp only;rw[if_neg (by rw[hl];decide)]
theorem zg3 {D:List Rev}{f:ByteArray→Option ByteArray}{m:Int}{p:ByteArray}{r:Rev}(h:z30 D p (fun v:Rev=>decide (v.chg≤m))=some r)(hf:f p=none):zfq D f m p=none:=by unfold zfq;rw[h];simp only;rw[hf];split <;> rfl
theorem zg4 {D:List Rev}{f:ByteArray→Option ByteArray}{m:Int}{p s:ByteArray}{r:Rev}(h:z30 D p (fun v:Rev=>decide (v.chg≤m))=some r)(hl:z2v r.act=true)(hf:f p=some s):zfq D f m p=some ⟨p,r.num,s⟩:=by unfold zfq;rw[h];simp only;rw[if_pos hl,hf];rfl
theorem fm_take {α β:Type}(f:α→Option β)(l:List α)(k:Nat)(hk:k<l.length):(l.take (k+1)).filterMap f=(l.take k).filterMap f++(f l[k]).toList:=by
 rw[List.take_succ_eq_append_getElem hk,List.filterMap_append];cases h:f l[k] with
 | none=>simp [h]
 | some b=>simp [h]
theorem zg5 {D:List Rev}{f:ByteArray→Option ByteArray}{m:Int}{l:List ByteArray}(hs:z5x (fun q:ByteArray=>q) l)(hm:∀ q,q∈l↔∃ r∈D,r.path=q)(h6:∀ r∈D,r.path∈zfm):l.filterMap (zfq D f m)=zfr D f m:=by
 have hno:∀ p,p∉l→zfq D f m p=none:=fun p hp=>zg1 (by
  cases hg:z30 D p (fun v:Rev=>decide (v.chg≤m)) with
  | none=>rfl
  | some r =>
   obtain⟨h1,h2,-⟩:=zfs hg;exact absurd ((hm p).2 ⟨r,h1,h2⟩) hp)
 have he:l=zfm.filter (fun p=>decide (p∈l)):=z66 hs (z6b zfn _) fun a=>by
  rw[List.mem_filter,decide_eq_true_eq];refine⟨fun h=>⟨?_,h⟩,fun h=>h.2⟩;obtain⟨r,hr,rfl⟩:=(hm a).1 h;exact h6 r hr
 unfold zfr;suffices h:∀(L:List ByteArray),(L.filter (fun p=>decide (p∈l))).filterMap (zfq D f m)=L.filterMap (zfq D f m) by
  rw[← h zfm,← he]
 intro L;induction L with
 | nil=>rfl
 | cons a L ih =>
  by_cases ha:a∈l
  ·rw[List.filter_cons_of_pos (by simpa using ha),List.filterMap_cons,List.filterMap_cons,ih]
  ·rw[List.filter_cons_of_neg (by simpa using ha),List.filterMap_cons,hno a ha,ih]
def zg6 (w:World)(l:List Hav)(e:Ending)(w':World):Prop:=∃ v,e=.returned (.tuple #[v,.int .i64 0])∧z4b w' v l∧Below w.heap.size w w'
theorem zg7 (D:List Rev)(es:List zdd)(m:Int)(dv dr mv:Value)(w:World)(he:Env w)(hR:z45 w dv D)(hE:zdn w mv es)(hl:D.length≤1000000)(h6:∀ r∈D,r.path∈zfm)(hS:zfz es):
  Calls prog 8 #[.agg #[dv,dr],mv,.int .i64 m] w (zg6 w (zfr D (zdy es) m)):=by
 obtain⟨Ar,cr,rfl,-⟩:=id hR;have hBox:=z0l w [.slice Ar D.length cr,dr] 27;have hA:Below w.heap.size w (w.alloc (.cells #[.slice Ar D.length cr,dr] 27)):=(Below.refl _ _).alloc (Nat.le_refl _) _;have HCK:=hd_ (fun X (hX:Below w.heap.size w X)=>zds es mv X (hE.below hX) hS.map);have HPA:=hd_ (fun X (hX:Below w.heap.size w X)=>zbg D zfm (.slice Ar D.length cr) dr X (hR.below hX) hl h6 (by decide) zg0)
 have HAT:=hd_ (fun X (hX:Below w.heap.size w X) p=>at_any D p m (.slice Ar D.length cr) dr X (hR.below hX) hl);have HFW:=hd_ (fun X (hX:Below w.heap.size w X) p (hp:p∈zfm)=>ze2 es mv p X (he.below hX) (hE.below hX) hS.map (hS.fits p hp) (zg0 p hp).2);have HSM:=hd_ hS.small;have H6:=hd_ h6;have HA:=hd_ hA;have HBX:=hd_ hBox;have HW:Hid (∀ l,z5x (fun q:ByteArray=>q) l→(∀ q,q∈l↔∃ r∈D,r.path=q)→l.filterMap (zfq D (zdy es) m)=zfr D (zdy es) m):=hd_ (fun l h1 h2=>zg5 h1 h2 h6);generalize zfr D (zdy es) m=WL at HW ⊢;clear he hR hE hS h6 hA hBox;go_enter func8,ntmps8;go_upto_region 1 with fail;generalize w.alloc (.cells #[.slice Ar D.length cr,dr] 27)=W1 at HA HBX ⊢;have HC1:=hd_ (HCK.out W1 HA.out);go_wp2_with fail;refine HC1.out.mono ?_;rintro e w2 ⟨rfl,hb⟩;have HB2:=hd_ (z0r HA.out hb);have HBX2:=hd_ (HBX.out.below hb HBX.out.lt);have d0:w2.cell? ⟨w.heap.size,0,none⟩=some (.slice Ar D.length cr):=HBX2.out.cell 0;have d1:w2.cell? ⟨w.heap.size,1,none⟩=some dr:=HBX2.out.cell 1;have HC2:=hd_ (HPA.out w2 HB2.out);clear hb HCK HPA HC1;go_wp2_with fail;refine HC2.out.mono ?_;rintro e w3 ⟨v3,l,rfl,hb,hS3,hst,hmem⟩;obtain⟨A3,c3,rfl,hcc3,hmm3,-⟩:=id hS3;have HB3:=hd_ (z0r HB2.out hb);have HBX3:=hd_ (HBX2.out.below hb HBX2.out.lt);have HL3:=hd_ hS3;have HWL:=hd_ (HW.out l hst hmem);have HMEM:Hid (∀ k (hk:k<l.length),l[k]∈zfm):=hd_ (fun k hk=>by
  obtain⟨r,hr,e⟩:=(hmem l[k]).1 (List.getElem_mem hk);rw[← e];exact H6.out r hr)
 have hlen6:l.length≤6:=by
  have hn:l.Nodup:=hst.imp fun {a b} h=>z5z h;exact zbb (B:=zfm) hn fun x hx=>by
   obtain⟨r,hr,e⟩:=(hmem x).1 hx;rw[← e];exact H6.out r hr
 unfold maxLen at hmm3;clear hb hS3 hst hmem d0 d1 HC2 HW;go_wp2_with fail;go_loopw [10,27] (fun lv i wr=>∃(k n:Nat) (A:Option Addr) (c:Nat),lv=.slice A n c∧i=.int .i64 k∧k≤l.length∧n≤k∧Hid (n=((l.take k).filterMap (zfq D (zdy es) m)).length∧Below w3.heap.size w3 wr∧wr.ownsRow w3.heap.size 96 3 (.slice A n c) n (((l.take k).filterMap (zfq D (zdy es) m)).flatMap Hav.cells))) (fun _ i _=>l.length - (intOf i).toNat)
 case atStart=>exact⟨0,0,none,0,rfl,rfl,Nat.zero_le _,Nat.le_refl _,hd_ ⟨rfl,Below.refl _ _,World.ownsRow_nil _ _ _ _⟩⟩
 case round =>
  obtain⟨k,n,A,c,rfl,rfl,hk,hnk,HI⟩:=hrel;by_cases hlt:k<l.length
  ·have HBW:=hd_ (z0r HB3.out HI.out.2.1);obtain⟨ad,rfl,hab,s0⟩:=Strs.at_ (HL3.out.below HI.out.2.1) hlt;have HT:=hd_ (fm_take (zfq D (zdy es) m) l k hlt);have HP6:=hd_ (HMEM.out k hlt);generalize l[k]=p at s0 HT HP6;have HA1:=hd_ (HAT.out wr HBW.out p);have HWN:=hd_ (@zg1 D (zdy es) m p);have HWG:=hd_ (fun r=>@zg2 D (zdy es) m p r);have HWO:=hd_ (fun r=>@zg3 D (zdy es) m p r);have HWY:=hd_ (fun r s=>@zg4 D (zdy es) m p s r);have HFP:=hd_ (fun X hX=>HFW.out X hX p HP6.out);have HSP:=hd_ (HSM.out p HP6.out);have HBD:=hd_ (HBX3.out.below HI.out.2.1 HBX3.out.lt);have d0:wr.cell? ⟨w.heap.size,0,none⟩=some (.slice Ar D.length cr):=HBD.out.cell 0;have d1:wr.cell? ⟨w.heap.size,1,none⟩=some dr:=HBD.out.cell 1;have HLT:=hd_ hlt;clear hab;obtain⟨o,ho⟩:∃ o,z30 D p (fun v:Rev=>decide (v.chg≤m))=o:=⟨_,rfl⟩;rw[ho] at HA1 HWN HWG HWO HWY;generalize zfq D (zdy es) m p=wo at HT HWN HWG HWO HWY;clear ho;cases o with
   | none =>
    have HW0:=hd_ (HWN.out rfl);generalize hz:zeh none=r at HA1;clear hz;go_wp2_with fail;refine HA1.out.mono ?_;rintro e w5 ⟨rfl,hb⟩;have HB5:=hd_ (z0r HI.out.2.1 (hb.alloc hb.size (.cells #[.string r.path,.int .i64 r.num,.int .i64 r.chg,.int .i64 r.act,.int .i64 r.ty.base,.bool r.ty.k,.bool r.ty.l,.bool r.ty.x,.int .u64 r.sum,.int .i64 r.size,.string r.frm,.int .i64 r.fnum] 90)));have HO5:=hd_ (z0n HI.out.2.2 (hb.alloc hb.size (.cells #[.string r.path,.int .i64 r.num,.int .i64 r.chg,.int .i64 r.act,.int .i64 r.ty.base,.bool r.ty.k,.bool r.ty.l,.bool r.ty.x,.int .u64 r.sum,.int .i64 r.size,.string r.frm,.int .i64 r.fnum] 90)));clear hb s0 d0 d1;go_wp2_with fail;go_roundw
    case rel=>exact⟨k+1,n,A,c,rfl,by go_num,by omega,by omega,hd_ (by rw[HT.out,HW0.out];simp only[Option.toList,List.append_nil];exact⟨HI.out.1,HB5.out,HO5.out⟩)⟩
    case measure=>simp [intOf];omega
   | some r =>
    change Hid (Calls _ _ _ _ fun e w'=>e=.returned (.tuple #[.agg #[.string r.path,.int .i64 r.num,.int .i64 r.chg,.int .i64 r.act,.int .i64 r.ty.base,.bool r.ty.k,.bool r.ty.l,.bool r.ty.x,.int .u64 r.sum,.int .i64 r.size,.string r.frm,.int .i64 r.fnum],.bool true])∧_) at HA1;have hX:=fun(X:World)=>z0l X [.string r.path,.int .i64 r.num,.int .i64 r.chg,.int .i64 r.act,.int .i64 r.ty.base,.bool r.ty.k,.bool r.ty.l,.bool r.ty.x,.int .u64 r.sum,.int .i64 r.size,.string r.frm,.int .i64 r.fnum] 90;by_cases h3:r.act=3∨r.act=5
    ·have HW0:=hd_ (HWG.out r rfl (by unfold z2v;rcases h3 with h | h <;> rw[h] <;> rfl))
     have HSPLIT:Hid (((r.act == 3)=true)∨((r.act == 3)=false∧(r.act == 5)=true)):=hd_ (by
      rcases h3 with h | h
      ·exact .inl (by rw[h];rfl)
      ·exact .inr ⟨by rw[h];rfl,by rw[h];rfl⟩)
     clear h3;go_wp2_with fail;refine HA1.out.mono ?_;rintro e w5 ⟨rfl,hb⟩;have hb5:=hb.alloc hb.size (.cells #[.string r.path,.int .i64 r.num,.int .i64 r.chg,.int .i64 r.act,.int .i64 r.ty.base,.bool r.ty.k,.bool r.ty.l,.bool r.ty.x,.int .u64 r.sum,.int .i64 r.size,.string r.frm,.int .i64 r.fnum] 90);have HB5:=hd_ (z0r HI.out.2.1 hb5);have HO5:=hd_ (z0n HI.out.2.2 hb5);have e3:(w5.alloc (.cells #[.string r.path,.int .i64 r.num,.int .i64 r.chg,.int .i64 r.act,.int .i64 r.ty.base,.bool r.ty.k,.bool r.ty.l,.bool r.ty.x,.int .u64 r.sum,.int .i64 r.size,.string r.frm,.int .i64 r.fnum] 90)).cell? ⟨w5.heap.size,3,none⟩=some (.int .i64 r.act):=(hX w5).cell 3;clear hb hb5 s0 d0 d1 hX;go_upto_region 9 with fail;generalize w5.alloc (.cells #[.string r.path,.int .i64 r.num,.int .i64 r.chg,.int .i64 r.act,.int .i64 r.ty.base,.bool r.ty.k,.bool r.ty.l,.bool r.ty.x,.int .u64 r.sum,.int .i64 r.size,.string r.frm,.int .i64 r.fnum] 90)=W5 at HB5 HO5 e3 ⊢;rcases HSPLIT.out with q | ⟨q,q'⟩
     all_goals
      go_wp2_with fail;go_roundw
      case rel=>exact⟨k+1,n,A,c,rfl,by go_num,by omega,by omega,hd_ (by rw[HT.out,HW0.out];simp only[Option.toList,List.append_nil];exact⟨HI.out.1,HB5.out,HO5.out⟩)⟩
      case measure=>simp [intOf];omega
    ·have q3:(r.act == 3)=false:=by rw[beq_eq_false_iff_ne];exact fun h=>h3 (.inl h)
     have q5:(r.act == 5)=false:=by rw[beq_eq_false_iff_ne];exact fun h=>h3 (.inr h)
     have HLV:Hid (z2v r.act=true):=hd_ (by unfold z2v;rw[bne,bne,q3,q5];rfl)
     clear h3;go_wp2_with fail;refine HA1.out.mono ?_;rintro e w5 ⟨rfl,hb⟩;have hb5:=hb.alloc hb.size (.cells #[.string r.path,.int .i64 r.num,.int .i64 r.chg,.int .i64 r.act,.int .i64 r.ty.base,.bool r.ty.k,.bool r.ty.l,.bool r.ty.x,.int .u64 r.sum,.int .i64 r.size,.string r.frm,.int .i64 r.fnum] 90);have HB5:=hd_ (z0r HI.out.2.1 hb5);have HO5:=hd_ (z0n HI.out.2.2 hb5);have HX5:=hd_ (hX w5);have e3:(w5.alloc (.cells #[.string r.path,.int .i64 r.num,.int .i64 r.chg,.int .i64 r.act,.int .i64 r.ty.base,.bool r.ty.k,.bool r.ty.l,.bool r.ty.x,.int .u64 r.sum,.int .i64 r.size,.string r.frm,.int .i64 r.fnum] 90)).cell? ⟨w5.heap.size,3,none⟩=some (.int .i64 r.act):=(hX w5).cell 3;clear hb hb5 s0 d0 d1 hX;go_upto_region 9 with fail;generalize w5.alloc (.cells #[.string r.path,.int .i64 r.num,.int .i64 r.chg,.int .i64 r.act,.int .i64 r.ty.base,.bool r.ty.k,.bool r.ty.l,.bool r.ty.x,.int .u64 r.sum,.int .i64 r.size,.string r.frm,.int .i64 r.fnum] 90)=W5 at HB5 HO5 HX5 e3 ⊢;generalize w5.heap.size=g13 at HX5 e3 ⊢;have HF5:=hd_ (HFP.out W5 (z0r HB3.out HB5.out));obtain⟨fo,hfo⟩:∃ fo,zdy es p=fo:=⟨_,rfl⟩;rw[hfo] at HF5;have HFO:=hd_ hfo;clear hfo;cases fo with
     | none =>
      have HW0:=hd_ (HWO.out r rfl HFO.out);go_wp2_with fail;refine HF5.out.mono ?_;rintro e w6 ⟨rfl,hb⟩;have HB6:=hd_ (z0r HB5.out hb);have HO6:=hd_ (z0n HO5.out hb);clear hb e3;go_wp2_with fail;go_roundw
      case rel=>exact⟨k+1,n,A,c,rfl,by go_num,by omega,by omega,hd_ (by rw[HT.out,HW0.out];simp only[Option.toList,List.append_nil];exact⟨HI.out.1,HB6.out,HO6.out⟩)⟩
      case measure=>simp [intOf];omega
     | some s =>
      have HW0:=hd_ (HWY.out r s rfl HLV.out HFO.out);have hsz:=HSP.out s HFO.out;have q200:decide ((200:Int)<(s.size:Int))=false:=by simp;omega
      have q200':decide (200<s.size)=false:=by simp;omega
      go_wp2_with fail;refine HF5.out.mono ?_;rintro e w6 ⟨rfl,hb⟩;have HB6:=hd_ (z0r HB5.out hb);have HO6:=hd_ (z0n HO5.out hb);have e1:w6.cell? ⟨g13,1,none⟩=some (.int .i64 r.num):=(HX5.out.below hb HX5.out.lt).cell 1;clear hb e3;have hba:Below w6.heap.size w6 (w6.alloc (.cells #[.string p,.int .i64 r.num,.string s] 96)):=(Below.refl _ _).alloc (Nat.le_refl _) _;have HO7:=hd_ (z0n HO6.out hba);have HB7:=hd_ (z0r HB6.out hba);have hrow:=z0i w6 [.string p,.int .i64 r.num,.string s] 96 3 1 rfl (by decide) _ rfl
      clear hba;go_wp2_with (at_builtin;refine z0k rfl rfl z54 HO7.out rfl hrow rfl HB7.out HB7.out.size (z55 ⟨p,r.num,s⟩) (by omega) (by unfold maxLen;omega) ?_;intro A' c' w8 hown8 hbl8)
      have HN:Hid (n+1=((l.take (k+1)).filterMap (zfq D (zdy es) m)).length∧Below w3.heap.size w3 w8∧w8.ownsRow w3.heap.size 96 3 (.slice A' (n+1) c') (n+1) (((l.take (k+1)).filterMap (zfq D (zdy es) m)).flatMap Hav.cells)):=hd_ (by
       rw[HT.out,HW0.out];refine⟨by rw[List.length_append,← HI.out.1];rfl,hbl8,?_⟩
       rw[List.flatMap_append];exact hown8)
      clear hown8 hbl8;go_wp2_with fail;go_roundw
      case rel=>exact⟨k+1,n+1,A',c',rfl,by go_num,by omega,by omega,HN⟩
      case measure=>simp [intOf];omega
  ·have hke:k=l.length:=by omega
   subst hke;rw[List.take_length,HWL.out] at HI;have hge:¬((l.length:Int)<(l.length:Int)):=by omega
   go_wp2_with fail;go_ret2;refine⟨_,rfl,?_,z0r HB3.out HI.out.2.1⟩;have h:=Row.of_own HI.out.2.2;rw[HI.out.1] at h ⊢;exact h
def zo4:Hav:=⟨z2l,0,z2l⟩
def HgPost (w:World)(o:Option Hav)(e:Ending)(w':World):Prop:=e=.returned (.tuple #[.agg #[.string (o.getD zo4).path,.int .i64 (o.getD zo4).num,.string (o.getD zo4).loc],.bool o.isSome])∧Below w.heap.size w w'
theorem zo5 {k:Hav→ByteArray}{l:List Hav}{p:ByteArray}{i:Nat}(hi:i<l.length)(h:∀ j (hj:j<l.length),j<i→k l[j]≠p)(e:k l[i]=p):z5y k l p=some l[i]:=by
 unfold z5y;rw[List.find?_eq_some_iff_getElem];exact⟨by simpa using e,i,hi,rfl,fun j hj=>by simpa using h j (by omega) hj⟩
theorem zo6 {k:Hav→ByteArray}{l:List Hav}{p:ByteArray}(h:∀ j (hj:j<l.length),k l[j]≠p):z5y k l p=none:=z62.2 fun a ha=>by
 obtain⟨j,hj,rfl⟩:=List.getElem_of_mem ha;exact h j hj
theorem zo7 (l:List Hav)(v:Value)(s:ByteArray)(w:World)(hL:z4b w v l)(hl:l.length≤1000000):
  Calls prog 94 #[v,.string s] w (HgPost w (z5y Hav.path l s)):=by
 obtain⟨A,c,rfl,-⟩:=id hL;have hA:Below w.heap.size w (w.alloc (.cells #[.string ⟨#[]⟩,.int .i64 0,.string ⟨#[]⟩] 96)):=(Below.refl _ _).alloc (Nat.le_refl _) _;have HB:Hid (Blk _ _ 96 [.string ⟨#[]⟩,.int .i64 0,.string ⟨#[]⟩]):=hd_ (z0l w _ _);have HA:=hd_ hA;have HL:=hd_ hL;clear hL hA;go_enter func94,ntmps94;go_upto_region 1 with fail;generalize w.alloc (.cells #[.string ⟨#[]⟩,.int .i64 0,.string ⟨#[]⟩] 96)=W1 at HA HB ⊢;go_wp2_with fail;go_loop [6] (fun i=>∃ k:Nat,i=.int .i64 k∧k≤l.length∧Hid (∀ j (hj:j<l.length),j<k→l[j].path≠s)) (fun i=>l.length - (intOf i).toNat)
 case atStart=>exact⟨0,rfl,Nat.zero_le _,hd_ (fun j _ h=>by omega)⟩
 case round =>
  obtain⟨k,rfl,hk,HI⟩:=hrel;obtain⟨f0,f1,f2⟩:=(⟨HB.out.frozen 0,HB.out.frozen 1,HB.out.frozen 2⟩:W1.frozen? ⟨w.heap.size,0,none⟩=false∧W1.frozen? ⟨w.heap.size,1,none⟩=false∧W1.frozen? ⟨w.heap.size,2,none⟩=false);obtain⟨z0,z1,z2⟩:=(⟨HB.out.cell 0,HB.out.cell 1,HB.out.cell 2⟩:W1.cell? ⟨w.heap.size,0,none⟩=some (.string ⟨#[]⟩)∧W1.cell? ⟨w.heap.size,1,none⟩=some (.int .i64 0)∧W1.cell? ⟨w.heap.size,2,none⟩=some (.string ⟨#[]⟩));by_cases hlt:k<l.length
  ·obtain⟨ad,rfl,hab,s0,s1,s2⟩:=z4b.at_ (Row.below HL.out HA.out) hlt;have HNX:Hid (l[k].path≠s→∀ j (hj:j<l.length),j<k+1→l[j].path≠s):=hd_ fun h j hj hjk=>by
    by_cases e:j=k
    ·subst e;exact h
    ·exact HI.out j hj (by omega)
   have HYE:=hd_ (zo5 (k:=Hav.path) (p:=s) hlt HI.out);generalize l[k]=x at s0 s1 s2 HNX HYE;have HLT:=hd_ hlt;by_cases h1:x.path=s
   ·have q1:(x.path.toList == s.toList)=true:=by rw[z3x,decide_eq_true h1]
    have HR:=hd_ (HYE.out h1);clear h1;go_wp2_with fail;have hE:=((HB.out.set_ 0 (.string x.path)).set_ 1 (.int .i64 x.num)).set_ 2 (.string x.loc);have hb:=((HA.out.setCell (p:=⟨w.heap.size,0,none⟩) (by simp) (.string x.path)).setCell (p:=⟨w.heap.size,1,none⟩) (by simp) (.int .i64 x.num)).setCell (p:=⟨w.heap.size,2,none⟩) (by simp) (.string x.loc)
    generalize ((W1.setCell ⟨w.heap.size,0,none⟩ (.string x.path)).setCell ⟨w.heap.size,1,none⟩ (.int .i64 x.num)).setCell ⟨w.heap.size,2,none⟩ (.string x.loc)=W8 at hE hb ⊢;have e0:=hE.cell 0;have e1:=hE.cell 1;have e2:=hE.cell 2;exact bodyPost_ret (v:=.tuple #[.agg #[.string x.path,.int .i64 x.num,.string x.loc],.bool true]) (by simp [results,results94,go_sem,e0,e1,e2]) rfl ⟨by rw[HR.out];rfl,hb⟩
   ·have q1:(x.path.toList == s.toList)=false:=by rw[z3x,decide_eq_false h1]
    have HN:=hd_ (HNX.out h1);clear h1;go_wp2_with fail;go_round
    case rel=>exact⟨k+1,by go_num,by have:=HLT.out;omega,HN⟩
    case measure=>have:=HLT.out;simp [intOf];omega
  ·have hke:k=l.length:=by omega
   subst hke;have HR:=hd_ (zo6 (k:=Hav.path) (p:=s) (fun j hj=>HI.out j hj hj));go_wp2_with fail;have hE:=((HB.out.set_ 0 (.string ⟨#[]⟩)).set_ 1 (.int .i64 0)).set_ 2 (.string ⟨#[]⟩);have hb:=((HA.out.setCell (p:=⟨w.heap.size,0,none⟩) (by simp) (.string ⟨#[]⟩)).setCell (p:=⟨w.heap.size,1,none⟩) (by simp) (.int .i64 0)).setCell (p:=⟨w.heap.size,2,none⟩) (by simp) (.string ⟨#[]⟩)
   generalize ((W1.setCell ⟨w.heap.size,0,none⟩ (.string ⟨#[]⟩)).setCell ⟨w.heap.size,1,none⟩ (.int .i64 0)).setCell ⟨w.heap.size,2,none⟩ (.string ⟨#[]⟩)=W8 at hE hb ⊢;have e0:=hE.cell 0;have e1:=hE.cell 1;have e2:=hE.cell 2;exact bodyPost_ret (v:=.tuple #[.agg #[.string ⟨#[]⟩,.int .i64 0,.string ⟨#[]⟩],.bool false]) (by simp [results,results94,go_sem,e0,e1,e2]) rfl ⟨by rw[HR.out];rfl,hb⟩
theorem zo8 (l:List Hav)(v:Value)(s:ByteArray)(w:World)(hL:z4b w v l)(hl:l.length≤1000000):
  Calls prog 59 #[v,.string s] w (HgPost w (z5y Hav.loc l s)):=by
 obtain⟨A,c,rfl,-⟩:=id hL;have hA:Below w.heap.size w (w.alloc (.cells #[.string ⟨#[]⟩,.int .i64 0,.string ⟨#[]⟩] 96)):=(Below.refl _ _).alloc (Nat.le_refl _) _;have HB:Hid (Blk _ _ 96 [.string ⟨#[]⟩,.int .i64 0,.string ⟨#[]⟩]):=hd_ (z0l w _ _);have HA:=hd_ hA;have HL:=hd_ hL;clear hL hA;go_enter func59,ntmps59;go_upto_region 1 with fail;generalize w.alloc (.cells #[.string ⟨#[]⟩,.int .i64 0,.string ⟨#[]⟩] 96)=W1 at HA HB ⊢;go_wp2_with fail;go_loop [6] (fun i=>∃ k:Nat,i=.int .i64 k∧k≤l.length∧Hid (∀ j (hj:j<l.length),j<k→l[j].loc≠s)) (fun i=>l.length - (intOf i).toNat)
 case atStart=>exact⟨0,rfl,Nat.zero_le _,hd_ (fun j _ h=>by omega)⟩
 case round =>
  obtain⟨k,rfl,hk,HI⟩:=hrel;obtain⟨f0,f1,f2⟩:=(⟨HB.out.frozen 0,HB.out.frozen 1,HB.out.frozen 2⟩:W1.frozen? ⟨w.heap.size,0,none⟩=false∧W1.frozen? ⟨w.heap.size,1,none⟩=false∧W1.frozen? ⟨w.heap.size,2,none⟩=false);obtain⟨z0,z1,z2⟩:=(⟨HB.out.cell 0,HB.out.cell 1,HB.out.cell 2⟩:W1.cell? ⟨w.heap.size,0,none⟩=some (.string ⟨#[]⟩)∧W1.cell? ⟨w.heap.size,1,none⟩=some (.int .i64 0)∧W1.cell? ⟨w.heap.size,2,none⟩=some (.string ⟨#[]⟩));by_cases hlt:k<l.length
  ·obtain⟨ad,rfl,hab,s0,s1,s2⟩:=z4b.at_ (Row.below HL.out HA.out) hlt;have HNX:Hid (l[k].loc≠s→∀ j (hj:j<l.length),j<k+1→l[j].loc≠s):=hd_ fun h j hj hjk=>by
    by_cases e:j=k
    ·subst e;exact h
    ·exact HI.out j hj (by omega)
   have HYE:=hd_ (zo5 (k:=Hav.loc) (p:=s) hlt HI.out);generalize l[k]=x at s0 s1 s2 HNX HYE;have HLT:=hd_ hlt;by_cases h1:x.loc=s
   ·have q1:(x.loc.toList == s.toList)=true:=by rw[z3x,decide_eq_true h1]
    have HR:=hd_ (HYE.out h1);clear h1;go_wp2_with fail;have hE:=((HB.out.set_ 0 (.string x.path)).set_ 1 (.int .i64 x.num)).set_ 2 (.string x.loc);have hb:=((HA.out.setCell (p:=⟨w.heap.size,0,none⟩) (by simp) (.string x.path)).setCell (p:=⟨w.heap.size,1,none⟩) (by simp) (.int .i64 x.num)).setCell (p:=⟨w.heap.size,2,none⟩) (by simp) (.string x.loc)
    generalize ((W1.setCell ⟨w.heap.size,0,none⟩ (.string x.path)).setCell ⟨w.heap.size,1,none⟩ (.int .i64 x.num)).setCell ⟨w.heap.size,2,none⟩ (.string x.loc)=W8 at hE hb ⊢;have e0:=hE.cell 0;have e1:=hE.cell 1;have e2:=hE.cell 2;exact bodyPost_ret (v:=.tuple #[.agg #[.string x.path,.int .i64 x.num,.string x.loc],.bool true]) (by simp [results,results59,go_sem,e0,e1,e2]) rfl ⟨by rw[HR.out];rfl,hb⟩
   ·have q1:(x.loc.toList == s.toList)=false:=by rw[z3x,decide_eq_false h1]
    have HN:=hd_ (HNX.out h1);clear h1;go_wp2_with fail;go_round
    case rel=>exact⟨k+1,by go_num,by have:=HLT.out;omega,HN⟩
    case measure=>have:=HLT.out;simp [intOf];omega
  ·have hke:k=l.length:=by omega
   subst hke;have HR:=hd_ (zo6 (k:=Hav.loc) (p:=s) (fun j hj=>HI.out j hj hj));go_wp2_with fail;have hE:=((HB.out.set_ 0 (.string ⟨#[]⟩)).set_ 1 (.int .i64 0)).set_ 2 (.string ⟨#[]⟩);have hb:=((HA.out.setCell (p:=⟨w.heap.size,0,none⟩) (by simp) (.string ⟨#[]⟩)).setCell (p:=⟨w.heap.size,1,none⟩) (by simp) (.int .i64 0)).setCell (p:=⟨w.heap.size,2,none⟩) (by simp) (.string ⟨#[]⟩)
   generalize ((W1.setCell ⟨w.heap.size,0,none⟩ (.string ⟨#[]⟩)).setCell ⟨w.heap.size,1,none⟩ (.int .i64 0)).setCell ⟨w.heap.size,2,none⟩ (.string ⟨#[]⟩)=W8 at hE hb ⊢;have e0:=hE.cell 0;have e1:=hE.cell 1;have e2:=hE.cell 2;exact bodyPost_ret (v:=.tuple #[.agg #[.string ⟨#[]⟩,.int .i64 0,.string ⟨#[]⟩],.bool false]) (by simp [results,results59,go_sem,e0,e1,e2]) rfl ⟨by rw[HR.out];rfl,hb⟩
open Go.Sort (grow)
def DrPost (w:World)(l:List Hav)(e:Ending)(w':World):Prop:=∃(v:Value) (c:Int),e=.returned (.tuple #[v,.int .i64 c])∧z4b w' v l∧Below w.heap.size w w'
theorem zq9 {l:List Hav}{p:ByteArray}(h:z6e l p=none):l.filter (fun a=>decide (a.path≠p))=l:=List.filter_eq_self.2 fun a ha=>decide_eq_true (z62.1 h a ha)
theorem drop_take {l:List Hav}{p:ByteArray}{k:Nat}(hk:k<l.length):(l.take (k+1)).filter (fun a=>decide (a.path≠p))=(l.take k).filter (fun a=>decide (a.path≠p))++if l[k].path=p then [] else [l[k]]:=by
 rw[List.take_succ_eq_append_getElem hk,List.filter_append];congr 1
 by_cases h:l[k].path=p
 ·rw[if_pos h,List.filter_cons_of_neg (by simpa using h)];rfl
 ·rw[if_neg h,List.filter_cons_of_pos (by simpa using h)];rfl
theorem zqa (l:List Hav)(v:Value)(Ap:Option Addr)(cp:Nat)(p:ByteArray)(w:World)(hL:z4b w v l)(hP:Strs w (.slice Ap 1 cp) [p])(hl:l.length≤1000000):
  Calls prog 98 #[v,.slice Ap 1 cp] w (DrPost w (l.filter (fun a=>decide (a.path≠p)))):=by
 obtain⟨A,c,rfl,-⟩:=id hL;have HL:=hd_ hL;have HP:=hd_ hP;have HLL:=hd_ hl;have HDN:=hd_ (fun h=>zq9 (l:=l) (p:=p) h);clear hL hP;go_enter func98,ntmps98;go_wp2_with fail;go_loopw [6] (fun i wr=>∃ k:Nat,k≤1∧i=.int .i64 k∧Hid (Below w.heap.size w wr)) (fun i _=>1 - (intOf i).toNat)
 case atStart=>exact⟨0,Nat.zero_le _,rfl,hd_ (Below.refl _ _)⟩
 case round =>
  obtain⟨k,hk,rfl,HB⟩:=hrel;by_cases hlt:k<1
  ·obtain rfl:k=0:=by omega
   obtain⟨ad,rfl,hab,s0⟩:=Strs.at_ (l:=[p]) (HP.out.below HB.out) (k:=0) (by simp)
   have s0:wr.cell? ad=some (.string p):=by
    have e0:ad.add 0=ad:=by unfold Addr.add;simp
    rw[← e0];exact s0
   have HG:=hd_ (zo7 l (.slice A l.length c) p wr (HL.out.below HB.out) hl);have HG:Hid (Calls prog 94 #[.slice A l.length c,.string p] wr fun e w'=>e=.returned (.tuple #[.agg #[.string (((z5y Hav.path l p).getD zo4)).path,.int .i64 (((z5y Hav.path l p).getD zo4)).num,.string (((z5y Hav.path l p).getD zo4)).loc],.bool (z5y Hav.path l p).isSome])∧Below wr.heap.size wr w'):=HG;generalize (z5y Hav.path l p).getD zo4=z at HG;cases ho:z5y Hav.path l p with
   | none =>
    rw[ho] at HG;have HN:=hd_ (HDN.out ho);clear ho;go_wp2_with fail;refine HG.out.mono ?_;rintro e w2 ⟨rfl,hb⟩;dsimp only;have hb2:=z0r HB.out hb;have HB3:=hd_ (z0r hb2 ((Below.refl w2.heap.size w2).alloc (Nat.le_refl _) (.cells #[.string z.path,.int .i64 z.num,.string z.loc] 96)));clear hb hb2 s0;go_wp2_with fail;go_ret2;exact⟨_,_,rfl,by rw[HN.out];exact HL.out.below HB3.out,HB3.out⟩
   | some a =>
    rw[ho] at HG;clear ho;go_wp2_with fail;refine HG.out.mono ?_;rintro e w2 ⟨rfl,hb⟩;dsimp only;have hb2:=z0r HB.out hb;have HB3:=hd_ (z0r hb2 ((Below.refl w2.heap.size w2).alloc (Nat.le_refl _) (.cells #[.string z.path,.int .i64 z.num,.string z.loc] 96)));clear hb hb2 s0;go_wp2_with fail;go_roundw
    case rel=>exact⟨1,Nat.le_refl _,rfl,HB3⟩
    case measure=>simp [intOf]
  ·have hz:¬((k:Int)<1):=by omega
   clear hk hlt;obtain⟨V1,hV⟩:∃ X,X=wr:=⟨_,rfl⟩;subst hV;go_wp2_with fail;go_loopw [9,10] (fun o i wr=>∃(k:Nat) (A3:Option Addr) (c3:Nat),k≤l.length∧i=.int .i64 k∧o=.slice A3 ((l.take k).filter (fun a=>decide (a.path≠p))).length c3∧Hid (Below V1.heap.size V1 wr∧wr.ownsRow V1.heap.size 96 3 (.slice A3 ((l.take k).filter (fun a=>decide (a.path≠p))).length c3) ((l.take k).filter (fun a=>decide (a.path≠p))).length (((l.take k).filter (fun a=>decide (a.path≠p))).flatMap Hav.cells))) (fun _ i _=>l.length - (intOf i).toNat)
   case atStart=>exact⟨0,none,0,Nat.zero_le _,rfl,rfl,hd_ ⟨Below.refl _ _,World.ownsRow_nil _ _ _ _⟩⟩
   case round =>
    obtain⟨k,A3,c3,hk,rfl,rfl,HI⟩:=hrel;by_cases hlt:k<l.length
    ·have HT:=hd_ (drop_take (p:=p) hlt);obtain⟨ad,hA,hab,s0,s1,s2⟩:=z4b.at_ (HL.out.below (z0r HB.out HI.out.1)) hlt;subst hA;have hfl:((l.take k).filter (fun a=>decide (a.path≠p))).length≤1000000:=Nat.le_trans (List.length_filter_le ..) (by rw[List.length_take];omega)
     have HLT:=hd_ hlt;generalize hF:(l.take k).filter (fun a=>decide (a.path≠p))=F at HI HT hfl ⊢;generalize hx:l[k]=x at s0 s1 s2 HT;have HX:=hd_ hx;have HFL:=hd_ hfl;clear hF hab hx;go_wp2_with fail;obtain⟨V2,hV⟩:∃ X,X=wr:=⟨_,rfl⟩;subst hV;go_loopw [11,12] (fun gv i wr=>∃ j:Nat,j≤1∧i=.int .i64 j∧gv=.bool (decide (j=1∧x.path=p))∧Hid (Below V2.heap.size V2 wr)) (fun _ i _=>1 - (intOf i).toNat)
     case atStart=>exact⟨0,Nat.zero_le _,rfl,by simp,hd_ (Below.refl _ _)⟩
     case round =>
      obtain⟨j,hj,rfl,rfl,HJ⟩:=hrel;by_cases hj0:j<1
      ·obtain rfl:j=0:=by omega
       have hbX:=HB.out.trans ((HI.out.1.trans (HJ.out.mono HI.out.1.size)).mono HB.out.size);obtain⟨ap,rfl,hab2,u0⟩:=Strs.at_ (l:=[p]) (HP.out.below hbX) (k:=0) (by simp)
       have u0:wr.cell? ap=some (.string p):=by
        have e0:ap.add 0=ap:=by unfold Addr.add;simp
        rw[← e0];exact u0
       obtain⟨ad3,e3,hab3,hld3⟩:=z4b.at_ (HL.out.below hbX) HLT.out;injection e3 with e3
       subst e3;obtain⟨t0,-,-⟩:=zp8 HX.out hld3;clear hld3 hab2 hab3 hbX hj hj0 s0 s1 s2;by_cases hpx:x.path=p
       ·have q1:(p.toList == x.path.toList)=true:=by rw[z3x,decide_eq_true hpx.symm]
        have HPX:=hd_ hpx;clear hpx;go_upto_region 15 with fail;go_quiet (fail)
        clear u0 t0;go_wp2_with fail;go_roundw
        case rel=>exact⟨1,Nat.le_refl _,rfl,by rw[decide_eq_true (⟨rfl,HPX.out⟩:(1:Nat)=1∧x.path=p)],z0p HJ.out _⟩
        case measure=>simp [intOf]
       ·have q1:(p.toList == x.path.toList)=false:=by rw[z3x,decide_eq_false (fun e=>hpx e.symm)]
        have HPX:=hd_ hpx;clear hpx;go_upto_region 15 with fail;go_quiet (fail)
        clear u0 t0;go_wp2_with fail;go_roundw
        case rel=>exact⟨1,Nat.le_refl _,rfl,by rw[decide_eq_false (fun h:(1:Nat)=1∧x.path=p=>HPX.out h.2)],z0p HJ.out _⟩
        case measure=>simp [intOf]
      ·have je:j=1:=by omega
       have hz2:¬((j:Int)<1):=by omega
       have hbX:=HI.out.1.trans (HJ.out.mono HI.out.1.size);have HOX:=hd_ (z0n HI.out.2 HJ.out);obtain⟨ad3,e3,hab3,hld3⟩:=z4b.at_ (HL.out.below (HB.out.trans (hbX.mono HB.out.size))) HLT.out;injection e3 with e3
       subst e3;obtain⟨t0,t1,t2⟩:=zp8 HX.out hld3;clear hld3;have HBX:=hd_ hbX;clear hab3 hbX hj hj0 s0 s1 s2 HJ HI;by_cases hpx:x.path=p
       ·have hd:decide (j=1∧x.path=p)=true:=decide_eq_true ⟨je,hpx⟩;have HPX:=hd_ hpx;rw[hd];clear hd hpx je;go_wp2_with fail;go_roundw
        case rel =>
         refine⟨k+1,A3,c3,HLT.out,by go_num,?_,?_⟩
         ·rw[HT.out,if_pos HPX.out,List.append_nil]
         ·rw[HT.out,if_pos HPX.out,List.append_nil];exact hd_ ⟨HBX.out,HOX.out⟩
        case measure=>have:=HLT.out;simp [intOf];omega
       ·have hd:decide (j=1∧x.path=p)=false:=decide_eq_false fun h=>hpx h.2;have HPX:=hd_ hpx;rw[hd];clear hd hpx je;have HO8:=hd_ (z0n HOX.out ((Below.refl wr.heap.size wr).alloc (Nat.le_refl _) (.cells #[.string x.path,.int .i64 x.num,.string x.loc] 96)));have HL8:=hd_ (HBX.out.alloc HBX.out.size (.cells #[.string x.path,.int .i64 x.num,.string x.loc] 96));have hrow:=z0i wr [.string x.path,.int .i64 x.num,.string x.loc] 96 3 1 rfl (by decide) _ rfl
        have hfl:=HFL.out;go_wp2_with (at_builtin;refine z0k rfl rfl z54 HO8.out rfl hrow rfl HL8.out HL8.out.size (z55 x) (by omega) (by unfold maxLen;omega) ?_;intro A9 c9 w9 hown9 hbl9)
        have HN:=hd_ (And.intro hbl9 hown9);clear hown9 hbl9 hrow hfl;go_wp2_with fail;go_roundw
        case rel =>
         refine⟨k+1,A9,c9,HLT.out,by go_num,?_,?_⟩
         ·rw[HT.out,if_neg HPX.out,List.length_append];rfl
         ·rw[HT.out,if_neg HPX.out,List.length_append,List.length_singleton,List.flatMap_append];exact HN
        case measure=>have:=HLT.out;simp [intOf];omega
    ·obtain rfl:k=l.length:=by omega
     clear hk hlt;have HI2:=HI;simp only[List.take_length] at HI ⊢
     go_wp2_with fail;go_ret2;exact⟨_,_,rfl,Row.of_own HI.out.2,z0r HB.out HI.out.1⟩
