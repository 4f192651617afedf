/- A part of the proof. -/
import Derived.Test.YtegeboijhifmcaaGreatDoorMgw23
set_option linter.unusedVariables false
set_option linter.unusedSimpArgs false
set_option maxHeartbeats 8000000
set_option maxRecDepth 100000
namespace Go.Proofs.YtegeboijhifmcaaGreatDoor
open Go.Proofs.Tryz
open Go.RowKit
structure zfs (es:List zd8):Prop where
 map:zdj es
 fits:∀ p∈zff,zdu es p
 small:∀ p∈zff,∀ s,zdt es p=some s→s.size≤200
theorem zft:∀ x∈zff,z2s x=true∧x.size≤1000000:=by decide +kernel
theorem zfu {D:List Rev}{f:ByteArray→Option ByteArray}{m:Int}{p:ByteArray}(h:z30 D p (fun v:Rev=>decide (v.chg≤m))=none):zfj D f m p=none:=by unfold zfj;rw[h]
theorem zfv {D:List Rev}{f:ByteArray→Option ByteArray}{m:Int}{p:ByteArray}{r:Rev}(h:z30 D p (fun v:Rev=>decide (v.chg≤m))=some r)(hl:z2v r.act=false):zfj D f m p=none:=by unfold zfj;rw[h];simp only;rw[if_neg (by rw[hl];decide)]
theorem zfw {D:List Rev}{f:ByteArray→Option ByteArray}{m:Int}{p:ByteArray}{r:Rev}(h:z30 D p (fun v:Rev=>decide (v.chg≤m))=some r)(hf:f p=none):zfj D f m p=none:=by unfold zfj;rw[h];simp only;rw[hf];split <;> rfl
theorem zfx {D:List Rev}{f:ByteArray→Option ByteArray}{m:Int}{p s:ByteArray}{r:Rev}(h:z30 D p (fun v:Rev=>decide (v.chg≤m))=some r)(hl:z2v r.act=true)(hf:f p=some s):zfj D f m p=some ⟨p,r.num,s⟩:=by unfold zfj;rw[h];simp only;rw[if_pos hl,hf];rfl
theorem zqr {α β:Type}(f:α→Option β)(l:List α)(k:Nat)(hk:k<l.length):(l.take (k+1)).filterMap f=(l.take k).filterMap f++(f l[k]).toList:=by
 rw[List.take_succ_eq_append_getElem hk,List.filterMap_append];cases h:f l[k] with
 | none=>simp [h]
 | some b=>simp [h]
theorem zfy {D:List Rev}{f:ByteArray→Option ByteArray}{m:Int}{l:List ByteArray}(hs:z5x (fun q:ByteArray=>q) l)(hm:∀ q,q∈l↔∃ r∈D,r.path=q)(h6:∀ r∈D,r.path∈zff):l.filterMap (zfj D f m)=zfk D f m:=by
 have hno:∀ p,p∉l→zfj D f m p=none:=fun p hp=>zfu (by
  cases hg:z30 D p (fun v:Rev=>decide (v.chg≤m)) with
  | none=>rfl
  | some r =>
   obtain⟨h1,h2,-⟩:=zfl hg;exact absurd ((hm p).2 ⟨r,h1,h2⟩) hp)
 have he:l=zff.filter (fun p=>decide (p∈l)):=z66 hs (z6a zfg _) fun a=>by
  rw[List.mem_filter,decide_eq_true_eq];refine⟨fun h=>⟨?_,h⟩,fun h=>h.2⟩;obtain⟨r,hr,rfl⟩:=(hm a).1 h;exact h6 r hr
 unfold zfk;suffices h:∀(L:List ByteArray),(L.filter (fun p=>decide (p∈l))).filterMap (zfj D f m)=L.filterMap (zfj D f m) by
  rw[← h zff,← he]
 intro L;induction L with
 | nil=>rfl
 | cons a L ih =>
  by_cases ha:a∈l
  ·rw[List.filter_cons_of_pos (by simpa using ha),List.filterMap_cons,List.filterMap_cons,ih]
  ·rw[List.filter_cons_of_neg (by simpa using ha),List.filterMap_cons,hno a ha,ih]
def zfz (w:World)(l:List Hav)(e:Ending)(w':World):Prop:=∃ v,e=.returned (.tuple #[v,.int .i64 0])∧z4b w' v l∧Below w.heap.size w w'
theorem zg0 (D:List Rev)(es:List zd8)(m:Int)(dv dr mv:Value)(w:World)(he:Env w)(hR:z45 w dv D)(hE:zdi w mv es)(hl:D.length≤1000000)(h6:∀ r∈D,r.path∈zff)(hS:zfs es):
  Calls prog 13 #[.agg #[dv,dr],mv,.int .i64 m] w (zfz w (zfk D (zdt es) m)):=by
 obtain⟨Ar,cr,rfl,-⟩:=id hR;have hBox:=z0l w [.slice Ar D.length cr,dr] 26;have hA:Below w.heap.size w (w.alloc (.cells #[.slice Ar D.length cr,dr] 26)):=(Below.refl _ _).alloc (Nat.le_refl _) _;have HCK:=hd_ (fun X (hX:Below w.heap.size w X)=>zdn es mv X (hE.below hX) hS.map);have HPA:=hd_ (fun X (hX:Below w.heap.size w X)=>zbb D zff (.slice Ar D.length cr) dr X (hR.below hX) hl h6 (by decide) zft)
 have HAT:=hd_ (fun X (hX:Below w.heap.size w X) p=>at_any D p m (.slice Ar D.length cr) dr X (hR.below hX) hl);have HFW:=hd_ (fun X (hX:Below w.heap.size w X) p (hp:p∈zff)=>zdx es mv p X (he.below hX) (hE.below hX) hS.map (hS.fits p hp) (zft p hp).2);have HSM:=hd_ hS.small;have H6:=hd_ h6;have HA:=hd_ hA;have HBX:=hd_ hBox;have HW:Hid (∀ l,z5x (fun q:ByteArray=>q) l→(∀ q,q∈l↔∃ r∈D,r.path=q)→l.filterMap (zfj D (zdt es) m)=zfk D (zdt es) m):=hd_ (fun l h1 h2=>zfy h1 h2 h6);generalize zfk D (zdt es) m=WL at HW ⊢;clear he hR hE hS h6 hA hBox;go_enter func13,ntmps13;go_upto_region 1 with fail;generalize w.alloc (.cells #[.slice Ar D.length cr,dr] 26)=W1 at HA HBX ⊢;have HC1:=hd_ (HCK.out W1 HA.out);go_wp2_with fail;refine HC1.out.mono ?_;rintro e w2 ⟨rfl,hb⟩;have HB2:=hd_ (z0r HA.out hb);have HBX2:=hd_ (HBX.out.below hb HBX.out.lt);have d0:w2.cell? ⟨w.heap.size,0,none⟩=some (.slice Ar D.length cr):=HBX2.out.cell 0;have d1:w2.cell? ⟨w.heap.size,1,none⟩=some dr:=HBX2.out.cell 1;have HC2:=hd_ (HPA.out w2 HB2.out);clear hb HCK HPA HC1;go_wp2_with fail;refine HC2.out.mono ?_;rintro e w3 ⟨v3,l,rfl,hb,hS3,hst,hmem⟩;obtain⟨A3,c3,rfl,hcc3,hmm3,-⟩:=id hS3;have HB3:=hd_ (z0r HB2.out hb);have HBX3:=hd_ (HBX2.out.below hb HBX2.out.lt);have HL3:=hd_ hS3;have HWL:=hd_ (HW.out l hst hmem);have HMEM:Hid (∀ k (hk:k<l.length),l[k]∈zff):=hd_ (fun k hk=>by
  obtain⟨r,hr,e⟩:=(hmem l[k]).1 (List.getElem_mem hk);rw[← e];exact H6.out r hr)
 have hlen6:l.length≤6:=by
  have hn:l.Nodup:=hst.imp fun {a b} h=>z5z h;exact zb6 (B:=zff) hn fun x hx=>by
   obtain⟨r,hr,e⟩:=(hmem x).1 hx;rw[← e];exact H6.out r hr
 unfold maxLen at hmm3;clear hb hS3 hst hmem d0 d1 HC2 HW;go_wp2_with fail;go_loopw [10,27] (fun lv i wr=>∃(k n:Nat) (A:Option Addr) (c:Nat),lv=.slice A n c∧i=.int .i64 k∧k≤l.length∧n≤k∧Hid (n=((l.take k).filterMap (zfj D (zdt es) m)).length∧Below w3.heap.size w3 wr∧wr.ownsRow w3.heap.size 44 3 (.slice A n c) n (((l.take k).filterMap (zfj D (zdt es) m)).flatMap Hav.cells))) (fun _ i _=>l.length - (intOf i).toNat)
 case atStart=>exact⟨0,0,none,0,rfl,rfl,Nat.zero_le _,Nat.le_refl _,hd_ ⟨rfl,Below.refl _ _,World.ownsRow_nil _ _ _ _⟩⟩
 case round =>
  obtain⟨k,n,A,c,rfl,rfl,hk,hnk,HI⟩:=hrel;by_cases hlt:k<l.length
  ·have HBW:=hd_ (z0r HB3.out HI.out.2.1);obtain⟨ad,rfl,hab,s0⟩:=Strs.at_ (HL3.out.below HI.out.2.1) hlt;have HT:=hd_ (zqr (zfj D (zdt es) m) l k hlt);have HP6:=hd_ (HMEM.out k hlt);generalize l[k]=p at s0 HT HP6;have HA1:=hd_ (HAT.out wr HBW.out p);have HWN:=hd_ (@zfu D (zdt es) m p);have HWG:=hd_ (fun r=>@zfv D (zdt es) m p r);have HWO:=hd_ (fun r=>@zfw D (zdt es) m p r);have HWY:=hd_ (fun r s=>@zfx D (zdt es) m p s r);have HFP:=hd_ (fun X hX=>HFW.out X hX p HP6.out);have HSP:=hd_ (HSM.out p HP6.out);have HBD:=hd_ (HBX3.out.below HI.out.2.1 HBX3.out.lt);have d0:wr.cell? ⟨w.heap.size,0,none⟩=some (.slice Ar D.length cr):=HBD.out.cell 0;have d1:wr.cell? ⟨w.heap.size,1,none⟩=some dr:=HBD.out.cell 1;have HLT:=hd_ hlt;clear hab;obtain⟨o,ho⟩:∃ o,z30 D p (fun v:Rev=>decide (v.chg≤m))=o:=⟨_,rfl⟩;rw[ho] at HA1 HWN HWG HWO HWY;generalize zfj D (zdt es) m p=wo at HT HWN HWG HWO HWY;clear ho;cases o with
   | none =>
    have HW0:=hd_ (HWN.out rfl);generalize hz:zec none=r at HA1;clear hz;go_wp2_with fail;refine HA1.out.mono ?_;rintro e w5 ⟨rfl,hb⟩;have HB5:=hd_ (z0r HI.out.2.1 (hb.alloc hb.size (.cells #[.string r.path,.int .i64 r.num,.int .i64 r.chg,.int .i64 r.act,.int .i64 r.ty.base,.bool r.ty.k,.bool r.ty.l,.bool r.ty.x,.int .u64 r.sum,.int .i64 r.size,.string r.frm,.int .i64 r.fnum] 66)));have HO5:=hd_ (z0n HI.out.2.2 (hb.alloc hb.size (.cells #[.string r.path,.int .i64 r.num,.int .i64 r.chg,.int .i64 r.act,.int .i64 r.ty.base,.bool r.ty.k,.bool r.ty.l,.bool r.ty.x,.int .u64 r.sum,.int .i64 r.size,.string r.frm,.int .i64 r.fnum] 66)));clear hb s0 d0 d1;go_wp2_with fail;go_roundw
    case rel=>exact⟨k+1,n,A,c,rfl,by go_num,by omega,by omega,hd_ (by rw[HT.out,HW0.out];simp only[Option.toList,List.append_nil];exact⟨HI.out.1,HB5.out,HO5.out⟩)⟩
    case measure=>simp [intOf];omega
   | some r =>
    change Hid (Calls _ _ _ _ fun e w'=>e=.returned (.tuple #[.agg #[.string r.path,.int .i64 r.num,.int .i64 r.chg,.int .i64 r.act,.int .i64 r.ty.base,.bool r.ty.k,.bool r.ty.l,.bool r.ty.x,.int .u64 r.sum,.int .i64 r.size,.string r.frm,.int .i64 r.fnum],.bool true])∧_) at HA1;have hX:=fun(X:World)=>z0l X [.string r.path,.int .i64 r.num,.int .i64 r.chg,.int .i64 r.act,.int .i64 r.ty.base,.bool r.ty.k,.bool r.ty.l,.bool r.ty.x,.int .u64 r.sum,.int .i64 r.size,.string r.frm,.int .i64 r.fnum] 66;by_cases h3:r.act=3∨r.act=5
    ·have HW0:=hd_ (HWG.out r rfl (by unfold z2v;rcases h3 with h | h <;> rw[h] <;> rfl))
     have HSPLIT:Hid (((r.act == 3)=true)∨((r.act == 3)=false∧(r.act == 5)=true)):=hd_ (by
      rcases h3 with h | h
      ·exact .inl (by rw[h];rfl)
      ·exact .inr ⟨by rw[h];rfl,by rw[h];rfl⟩)
     clear h3;go_wp2_with fail;refine HA1.out.mono ?_;rintro e w5 ⟨rfl,hb⟩;have hb5:=hb.alloc hb.size (.cells #[.string r.path,.int .i64 r.num,.int .i64 r.chg,.int .i64 r.act,.int .i64 r.ty.base,.bool r.ty.k,.bool r.ty.l,.bool r.ty.x,.int .u64 r.sum,.int .i64 r.size,.string r.frm,.int .i64 r.fnum] 66);have HB5:=hd_ (z0r HI.out.2.1 hb5);have HO5:=hd_ (z0n HI.out.2.2 hb5);have e3:(w5.alloc (.cells #[.string r.path,.int .i64 r.num,.int .i64 r.chg,.int .i64 r.act,.int .i64 r.ty.base,.bool r.ty.k,.bool r.ty.l,.bool r.ty.x,.int .u64 r.sum,.int .i64 r.size,.string r.frm,.int .i64 r.fnum] 66)).cell? ⟨w5.heap.size,3,none⟩=some (.int .i64 r.act):=(hX w5).cell 3;clear hb hb5 s0 d0 d1 hX;go_upto_region 9 with fail;generalize w5.alloc (.cells #[.string r.path,.int .i64 r.num,.int .i64 r.chg,.int .i64 r.act,.int .i64 r.ty.base,.bool r.ty.k,.bool r.ty.l,.bool r.ty.x,.int .u64 r.sum,.int .i64 r.size,.string r.frm,.int .i64 r.fnum] 66)=W5 at HB5 HO5 e3 ⊢;rcases HSPLIT.out with q | ⟨q,q'⟩
     all_goals
      go_wp2_with fail;go_roundw
      case rel=>exact⟨k+1,n,A,c,rfl,by go_num,by omega,by omega,hd_ (by rw[HT.out,HW0.out];simp only[Option.toList,List.append_nil];exact⟨HI.out.1,HB5.out,HO5.out⟩)⟩
      case measure=>simp [intOf];omega
    ·have q3:(r.act == 3)=false:=by rw[beq_eq_false_iff_ne];exact fun h=>h3 (.inl h)
     have q5:(r.act == 5)=false:=by rw[beq_eq_false_iff_ne];exact fun h=>h3 (.inr h)
     have HLV:Hid (z2v r.act=true):=hd_ (by unfold z2v;rw[bne,bne,q3,q5];rfl)
     clear h3;go_wp2_with fail;refine HA1.out.mono ?_;rintro e w5 ⟨rfl,hb⟩;have hb5:=hb.alloc hb.size (.cells #[.string r.path,.int .i64 r.num,.int .i64 r.chg,.int .i64 r.act,.int .i64 r.ty.base,.bool r.ty.k,.bool r.ty.l,.bool r.ty.x,.int .u64 r.sum,.int .i64 r.size,.string r.frm,.int .i64 r.fnum] 66);have HB5:=hd_ (z0r HI.out.2.1 hb5);have HO5:=hd_ (z0n HI.out.2.2 hb5);have HX5:=hd_ (hX w5);have e3:(w5.alloc (.cells #[.string r.path,.int .i64 r.num,.int .i64 r.chg,.int .i64 r.act,.int .i64 r.ty.base,.bool r.ty.k,.bool r.ty.l,.bool r.ty.x,.int .u64 r.sum,.int .i64 r.size,.string r.frm,.int .i64 r.fnum] 66)).cell? ⟨w5.heap.size,3,none⟩=some (.int .i64 r.act):=(hX w5).cell 3;clear hb hb5 s0 d0 d1 hX;go_upto_region 9 with fail;generalize w5.alloc (.cells #[.string r.path,.int .i64 r.num,.int .i64 r.chg,.int .i64 r.act,.int .i64 r.ty.base,.bool r.ty.k,.bool r.ty.l,.bool r.ty.x,.int .u64 r.sum,.int .i64 r.size,.string r.frm,.int .i64 r.fnum] 66)=W5 at HB5 HO5 HX5 e3 ⊢;generalize w5.heap.size=g13 at HX5 e3 ⊢;have HF5:=hd_ (HFP.out W5 (z0r HB3.out HB5.out));obtain⟨fo,hfo⟩:∃ fo,zdt es p=fo:=⟨_,rfl⟩;rw[hfo] at HF5;have HFO:=hd_ hfo;clear hfo;cases fo with
     | none =>
      have HW0:=hd_ (HWO.out r rfl HFO.out);go_wp2_with fail;refine HF5.out.mono ?_;rintro e w6 ⟨rfl,hb⟩;have HB6:=hd_ (z0r HB5.out hb);have HO6:=hd_ (z0n HO5.out hb);clear hb e3;go_wp2_with fail;go_roundw
      case rel=>exact⟨k+1,n,A,c,rfl,by go_num,by omega,by omega,hd_ (by rw[HT.out,HW0.out];simp only[Option.toList,List.append_nil];exact⟨HI.out.1,HB6.out,HO6.out⟩)⟩
      case measure=>simp [intOf];omega
     | some s =>
      have HW0:=hd_ (HWY.out r s rfl HLV.out HFO.out);have hsz:=HSP.out s HFO.out;have q200:decide ((200:Int)<(s.size:Int))=false:=by simp;omega
      have q200':decide (200<s.size)=false:=by simp;omega
      go_wp2_with fail;refine HF5.out.mono ?_;rintro e w6 ⟨rfl,hb⟩;have HB6:=hd_ (z0r HB5.out hb);have HO6:=hd_ (z0n HO5.out hb);have e1:w6.cell? ⟨g13,1,none⟩=some (.int .i64 r.num):=(HX5.out.below hb HX5.out.lt).cell 1;clear hb e3;have hba:Below w6.heap.size w6 (w6.alloc (.cells #[.string p,.int .i64 r.num,.string s] 44)):=(Below.refl _ _).alloc (Nat.le_refl _) _;have HO7:=hd_ (z0n HO6.out hba);have HB7:=hd_ (z0r HB6.out hba);have hrow:=z0i w6 [.string p,.int .i64 r.num,.string s] 44 3 1 rfl (by decide) _ rfl
      clear hba;go_wp2_with (at_builtin;refine z0k rfl rfl z54 HO7.out rfl hrow rfl HB7.out HB7.out.size (z55 ⟨p,r.num,s⟩) (by omega) (by unfold maxLen;omega) ?_;intro A' c' w8 hown8 hbl8)
      have HN:Hid (n+1=((l.take (k+1)).filterMap (zfj D (zdt es) m)).length∧Below w3.heap.size w3 w8∧w8.ownsRow w3.heap.size 44 3 (.slice A' (n+1) c') (n+1) (((l.take (k+1)).filterMap (zfj D (zdt es) m)).flatMap Hav.cells)):=hd_ (by
       rw[HT.out,HW0.out];refine⟨by rw[List.length_append,← HI.out.1];rfl,hbl8,?_⟩
       rw[List.flatMap_append];exact hown8)
      clear hown8 hbl8;go_wp2_with fail;go_roundw
      case rel=>exact⟨k+1,n+1,A',c',rfl,by go_num,by omega,by omega,HN⟩
      case measure=>simp [intOf];omega
  ·have hke:k=l.length:=by omega
   subst hke;rw[List.take_length,HWL.out] at HI;have hge:¬((l.length:Int)<(l.length:Int)):=by omega
   go_wp2_with fail;go_ret2;refine⟨_,rfl,?_,z0r HB3.out HI.out.2.1⟩;have h:=Row.of_own HI.out.2.2;rw[HI.out.1] at h ⊢;exact h
structure EntP where
 l:Pat
 r:Pat
 hs:List Pat
def zd8.pl (x:zd8):EntP:=⟨x.l.1,x.r.1,x.hs.map (·.1)⟩
def zg1 (c:UInt8):ByteArray:=⟨#[c]⟩
def zg2:ByteArray:=⟨#[42]⟩
def zg3:Nat→List EntP
 | 0=>[⟨⟨[zg1 100],true⟩,⟨[zg1 99],true⟩,[]⟩]
 | 1=>[⟨⟨[zg1 100],true⟩,⟨[zg1 99],true⟩,[⟨[zg1 100,zg1 120],true⟩]⟩]
 | 2=>[⟨⟨[zg1 100,zg1 120],true⟩,⟨[zg1 99],true⟩,[]⟩,⟨⟨[zg1 101],true⟩,⟨[zg1 119],true⟩,[]⟩]
 | 3=>[⟨⟨[zg1 100,zg1 97],false⟩,⟨[zg1 99,zg1 98],false⟩,[]⟩,⟨⟨[zg1 100,zg1 98],false⟩,⟨[zg1 99,zg1 97],false⟩,[]⟩,⟨⟨[zg1 100,zg1 120],true⟩,⟨[zg1 99,zg1 120],true⟩,[]⟩]
 | 4=>[⟨⟨[zg1 100,zg1 97],false⟩,⟨[zg1 99,zg1 97],false⟩,[]⟩,⟨⟨[zg1 100,zg1 98],false⟩,⟨[zg1 99,zg1 98],false⟩,[]⟩,⟨⟨[zg1 101,zg1 97],false⟩,⟨[zg1 99,zg1 101],false⟩,[]⟩]
 | 5=>[⟨⟨[zg1 101],true⟩,⟨[zg1 99],true⟩,[]⟩,⟨⟨[zg1 100,zg2,zg1 97],false⟩,⟨[zg1 119,zg2,zg1 122],false⟩,[]⟩]
 | 6=>[⟨⟨[zg1 100],true⟩,⟨[zg1 99],true⟩,[]⟩,⟨⟨[zg1 101],true⟩,⟨[zg1 119],true⟩,[]⟩]
 | _=>[]
def regP (b:Pat)(hs:List Pat):Int:=if z7e b≠0 then 50 else if (hs.all fun q=>decide (z7e q=0))=false then 51 else if 64<hs.length then 52 else 0
theorem regE_pl (b:Pat)(hs:List zd1):zd3 b hs=regP b (hs.map (·.1)):=by
 unfold zd3 regP;rw[List.length_map,List.all_map];rfl
def zg4 (p:Pat):Bool:=p.rest && decide (z7e p=0) && p.parts.all fun x=>!z79 x
theorem zg5 {p:Pat}(h:zg4 p=true):zcm p:=by
 unfold zg4 at h;simp only[Bool.and_eq_true,List.all_eq_true,Bool.not_eq_true',decide_eq_true_eq] at h
 exact⟨h.1.1,h.1.2,h.2⟩
def wiB (p q:Pat):Bool:=decide (q.parts.length≤p.parts.length) && (List.range q.parts.length).all fun k=>z9s ((p.parts[k]?).getD z2l) ((q.parts[k]?).getD z2l)
theorem wiB_ok {p q:Pat}(h:wiB p q=true):WiOk p q:=by
 unfold wiB at h;simp only[Bool.and_eq_true,List.all_eq_true,decide_eq_true_eq,List.mem_range] at h
 refine⟨h.1,fun k hk=>?_⟩;have:=h.2 k hk;rw[List.getElem?_eq_getElem hk,List.getElem?_eq_getElem (Nat.lt_of_lt_of_le hk h.1)] at this;exact this
def narB (l r h:Pat):Bool:=match zai l h with
 | none=>false
 | some m=>zg4 l && zg4 r && decide (za8 l r=0) && decide (z7e h=0) && m.rest && decide (z7e m=0) && wiB m l && decide (r.parts.length+(m.parts.length - l.parts.length)≤12)
theorem narB_ok {l r h:Pat}(e:narB l r h=true):∃ m,zcw l r h m:=by
 unfold narB at e;cases hm:zai l h with
 | none=>rw[hm] at e;cases e
 | some m =>
  rw[hm] at e;simp only[Bool.and_eq_true,decide_eq_true_eq] at e
  obtain⟨⟨⟨⟨⟨⟨⟨e1,e2⟩,e3⟩,e4⟩,e5⟩,e6⟩,e7⟩,e8⟩:=e;exact⟨m,zg5 e1,zg5 e2,e3,e4,hm,e5,e6,wiB_ok e7,e8⟩
def fillB (p:Pat)(caps:List ByteArray):Bool:=
 decide (z7e p=0) && decide (caps.length=za2 p+(if p.rest then 1 else 0)) && (caps.take (za2 p)).all z0v && (!p.rest || (caps.drop (za2 p)).all fun c=>(z1a c.data.toList).all z0u) &&
  (caps.all fun c=>decide (c.size≤1000000)) && decide ((Lib.join ((zbt p caps).map (·.data.toList)) [47]).length≤1000000) && decide (0<(zbt p caps).length)
theorem zg6 {p:Pat}{caps:List ByteArray}(h:fillB p caps=true):zbv p caps:=by
 unfold fillB at h;simp only[Bool.and_eq_true,Bool.or_eq_true,Bool.not_eq_true',List.all_eq_true,decide_eq_true_eq] at h
 obtain⟨⟨⟨⟨⟨⟨h1,h2⟩,h3⟩,h4⟩,h5⟩,h6⟩,h7⟩:=h;refine⟨h1,h2,h3,fun hr c hc=>?_,h5,h6,h7⟩;rcases h4 with h4 | h4
 ·rw[h4] at hr;cases hr
 ·exact List.all_eq_true.2 (h4 c hc)
def entB (x:EntP):Bool:=decide (za8 x.l x.r=0) && decide (regP x.l x.hs=0) && x.hs.all (narB x.l x.r)
def mapB (es:List EntP):Bool:=decide (es.length≤32) && es.all entB && (List.range es.length).all fun i=>(List.range i).all fun j=>match es[i]?,es[j]? with
 | some x,some y=>(zai x.l y.l).isNone && (zai x.r y.r).isNone
 | _,_=>false
theorem mapB_ok {es:List zd8}(h:mapB (es.map zd8.pl)=true):zdj es:=by
 unfold mapB at h;simp only[Bool.and_eq_true,List.all_eq_true,decide_eq_true_eq,List.mem_range,List.length_map,List.mem_map,forall_exists_index,and_imp,forall_apply_eq_imp_iff₂] at h
 obtain⟨⟨h1,h2⟩,h3⟩:=h;refine⟨h1,fun x hx=>?_,fun i j hi hj=>?_⟩
 ·have:=h2 x hx;unfold entB at this;simp only[Bool.and_eq_true,List.all_eq_true,decide_eq_true_eq] at this
  refine⟨this.1.1,by rw[regE_pl];exact this.1.2,fun q hq=>?_⟩
  exact narB_ok (this.2 q.1 (List.mem_map.2 ⟨q,hq,rfl⟩))
 ·have:=h3 i hi j hj;rw[List.getElem?_map,List.getElem?_map,List.getElem?_eq_getElem hi,List.getElem?_eq_getElem (Nat.lt_trans hj hi)] at this;simp only[Option.map_some,Bool.and_eq_true,Option.isNone_iff_eq_none] at this
  exact this
def zg7 (x:EntP)(p:ByteArray):Option ByteArray:=match zc2 x.l x.r p with
 | none=>none
 | some s=>if x.hs.any (fun q=>(z8e q p).isSome) then none else some s
def fwdP (es:List EntP)(p:ByteArray):Option ByteArray:=es.findSome? (zg7 · p)
theorem fwdM_pl (es:List zd8)(p:ByteArray):zdt es p=fwdP (es.map zd8.pl) p:=by
 unfold zdt fwdP;induction es with
 | nil=>rfl
 | cons x es ih =>
  rw[List.map_cons,List.findSome?_cons,List.findSome?_cons,ih];have:zds x p=zg7 x.pl p:=by
   unfold zds zg7 zdp;show (match zc2 x.l.1 x.r.1 p with | none=>none | some s=>_)=(match zc2 x.l.1 x.r.1 p with | none=>none | some s=>if (x.hs.map (·.1)).any _=true then none else some s)
   rw[List.any_map];rfl
  rw[this]
theorem maps_B:∀ k<8,mapB (zg3 k)=true:=by decide +kernel
theorem zg8:∀ k<8,∀ p∈zff,fwdP (zg3 k) p=zfq k p:=by decide +kernel
theorem zg9:∀ k<8,∀ p∈zff,∀ x∈zg3 k,((z8e x.l p).map (fillB x.r)).getD true=true:=by decide +kernel
theorem zga:∀ k<8,∀ p∈zff,((zfq k p).map fun s=>decide (s.size≤200)).getD true=true:=by decide +kernel
theorem zgb {es:List zd8}{k:Nat}(hk:k<8)(h:es.map zd8.pl=zg3 k):zfs es∧∀ p∈zff,zdt es p=zfq k p:=by
 have hf:∀ p∈zff,zdt es p=zfq k p:=fun p hp=>by rw[fwdM_pl,h];exact zg8 k hk p hp
 refine⟨⟨mapB_ok (by rw[h];exact maps_B k hk),fun p hp x hx caps hc=>?_,fun p hp s hs=>?_⟩,hf⟩
 ·have:=zg9 k hk p hp x.pl (by rw[← h];exact List.mem_map.2 ⟨x,hx,rfl⟩)
  have e:z8e x.pl.l p=some caps:=hc;rw[e] at this;exact zg6 this
 ·rw[hf p hp] at hs;have:=zga k hk p hp;rw[hs] at this;simpa using this
theorem zgc {D:List Rev}{f g:ByteArray→Option ByteArray}{m:Int}(h:∀ p∈zff,f p=g p):zfk D f m=zfk D g m:=by
 unfold zfk;refine z6m fun p hp=>?_;unfold zfj;rw[h p hp]
section
variable {u0 u1 u2 u3 u4 u5 u6 u7 u8 u9 gn gt gu gx gy gz gA gC gD gE gF gG gH gI gJ gK gL gM gN gO gP gQ gR gT gV gW gX gY gZ i6 i7 i8 ia ib ic ie ig ii ij ik il im io ip iq ir iu iv iw ix iy iz iA iB iC iD iE iF iG iH iI iJ iK iL iM iN iO iP iQ iR iS iT iU iV iW iX iY iZ j0 j1 j2 j5 j6 j7 j8 j9 jb jd je : Value}
theorem zgh (b:Bool)(v:Value)(A:Option Addr)(n c:Nat)(hv:v=.slice A n c)(w:World):Calls prog 49 #[.bool b,v] w fun e w'=>e=.returned (.agg #[v,.bool b])∧Below w.heap.size w w':=by
 subst hv;have hZ:=z0l w [.slice none 0 0,.bool false] 97;have hA:Below w.heap.size w (w.alloc (.cells #[.slice none 0 0,.bool false] 97)):=(Below.refl _ _).alloc (Nat.le_refl _) _;go_enter func49,ntmps49;go_upto_region 1 with fail;generalize w.alloc (.cells #[.slice none 0 0,.bool false] 97)=W1 at hZ hA ⊢;obtain⟨z0,z1⟩:=(⟨hZ.cell 0,hZ.cell 1⟩:W1.cell? ⟨w.heap.size,0,none⟩=some (.slice none 0 0)∧W1.cell? ⟨w.heap.size,1,none⟩=some (.bool false));obtain⟨y0,y1⟩:=(⟨hZ.frozen 0,hZ.frozen 1⟩:W1.frozen? ⟨w.heap.size,0,none⟩=false∧W1.frozen? ⟨w.heap.size,1,none⟩=false);go_wp2_with fail;have hE:=(hZ.set_ 0 (.slice A n c)).set_ 1 (.bool b);have hb:=(hA.setCell (p:=⟨w.heap.size,0,none⟩) (by simp) (.slice A n c)).setCell (p:=⟨w.heap.size,1,none⟩) (by simp) (.bool b)
 generalize (W1.setCell ⟨w.heap.size,0,none⟩ (.slice A n c)).setCell ⟨w.heap.size,1,none⟩ (.bool b)=W3 at hE hb ⊢;have e0:=hE.cell 0;have e1:=hE.cell 1;exact bodyPost_ret (v:=.agg #[.slice A n c,.bool b]) (by simp [results,results49,go_sem,e0,e1]) rfl ⟨rfl,hb⟩
theorem zgi {wp w1:World}{o:Obj}(hb:Below (wp.alloc o).heap.size (wp.alloc o) w1):Below wp.heap.size wp w1:=z0r ((Below.refl _ _).alloc (Nat.le_refl _) _) hb
theorem zgj {wp w1:World}{cs:List Value}{t:TypeId}(hb:Below (wp.alloc (.cells cs.toArray t)).heap.size (wp.alloc (.cells cs.toArray t)) w1):Blk w1 wp.heap.size t cs:=(z0l wp cs t).below hb (z0l wp cs t).lt
theorem zgk {w:World}{g:Nat}{l:List ByteArray}{b:Bool}{n:Nat}(h:Blk w g 9 (l.map .string))(hn:n=l.length)(hl:l.length≤1000)(hs:∀ x∈l,x.size≤1000000):za9 w (.slice (some ⟨g,0,none⟩) n n) ⟨l,b⟩:=by
 subst hn;exact⟨h.row (size:=1) (n:=l.length) (by rw[List.length_map,Nat.mul_one]) (by unfold maxLen;omega),hs⟩
theorem zgl (w:World):zd2 w (.slice none 0 0) []:=⟨Row.nil_ w 2,fun q h=>by cases h⟩
theorem zgm {w1 w2:World}{n:Nat}{es:List zd8}{cs:List Value}(hb:Below w1.heap.size w1 w2)(hcs:cs=es.flatMap zd8.cells)(hn:n=es.length)(hl:es.length≤1000)
  (he:∀ x∈es,zd9 w2 x):zdi (w2.alloc (.cells cs.toArray 100)) (.slice (some ⟨w2.heap.size,0,none⟩) n n) es∧Below w1.heap.size w1 (w2.alloc (.cells cs.toArray 100)):=by
 subst hcs hn;have ha:Below w2.heap.size w2 (w2.alloc (.cells (es.flatMap zd8.cells).toArray 100)):=(Below.refl _ _).alloc (Nat.le_refl _) _;refine⟨⟨(z0l w2 (es.flatMap zd8.cells) 100).row (size:=5) (n:=es.length) ?_ (by unfold maxLen;omega),fun x hx=>(he x hx).below ha⟩,z0r hb ha⟩
 clear he ha hl hb;induction es with
 | nil=>rfl
 | cons x es ih=>rw[List.flatMap_cons,List.length_append,ih,List.length_cons];show 5+_=_;omega
theorem mpR3 (ops:Array Oper)(hops:Tryz.f25.body.bind (zci 3)=some ops)(Q:Exit→Act→World→Prop)(w1:World)
  (hQ:∀(t7 t8 t9 ed ef ei:Value) (es:List zd8) (A':Option Addr) (n c:Nat) (w':World),Hid (es.map zd8.pl=zg3 0∧zdi w' (.slice A' n c) es∧Below w1.heap.size w1 w')→Q .normal ⟨#[u0,u1,.slice A' n c,u3,u4,u5,u6,t7,t8,t9,ed,ef,ei,gx,gy,gz,gA,gC,gD,gE,gF,gG,gH,gI,gJ,gK,gL,gM,gN,gO,gP,gQ,gR,gT,gV,gW,gX,gY,gZ,i6,i7,i8,ia,ib,ic,ie,ig,ii,ij,ik,il,im,io,ip,iq,ir,iu,iv,iw,ix,iy,iz,iA,iB,iC,iD,iE,iF,iG,iH,iI,iJ,iK,iL,iM,iN,iO,iP,iQ,iR,iS,iT,iU,iV,iW,iX,iY,iZ,j0,j1,j2,j5,j6,j7,j8,j9,jb,jd,je],[]⟩ w'):
  (Code.region 3 ops false).wp prog Q ⟨#[u0,u1,u2,u3,u4,u5,u6,u7,u8,u9,gn,gt,gu,gx,gy,gz,gA,gC,gD,gE,gF,gG,gH,gI,gJ,gK,gL,gM,gN,gO,gP,gQ,gR,gT,gV,gW,gX,gY,gZ,i6,i7,i8,ia,ib,ic,ie,ig,ii,ij,ik,il,im,io,ip,iq,ir,iu,iv,iw,ix,iy,iz,iA,iB,iC,iD,iE,iF,iG,iH,iI,iJ,iK,iL,iM,iN,iO,iP,iQ,iR,iS,iT,iU,iV,iW,iX,iY,iZ,j0,j1,j2,j5,j6,j7,j8,j9,jb,jd,je],[]⟩ w1:=by
 simp only[Tryz.f25,Option.bind_some,zci] at hops
 simp at hops
 subst hops;have HQ:=hd_ hQ;clear hQ;have HB0:Hid (Below w1.heap.size w1 w1):=hd_ (Below.refl _ _);go_wp2_with fail;refine (zgh _ _ _ _ _ rfl _).mono ?_;rintro e w2 ⟨rfl,hb⟩;dsimp only;have HP1:=hd_ (zgj (cs:=[.string ⟨#[100]⟩]) hb);have HB1:=hd_ (z0r HB0.out (zgi hb));clear hb;go_wp2_with fail;refine (zgh _ _ _ _ _ rfl _).mono ?_;rintro e w3 ⟨rfl,hb⟩;dsimp only;have HP2:=hd_ (zgj (cs:=[.string ⟨#[99]⟩]) hb);have HP1:=hd_ (HP1.out.below (zgi hb) HP1.out.lt);have HB2:=hd_ (z0r HB1.out (zgi hb));clear hb;go_wp2_with fail;have H:=zgm (w2:=w3) (n:=1) (cs:=[.slice (some ⟨w1.heap.size,0,none⟩) 1 1,.bool true,.slice (some ⟨w2.heap.size,0,none⟩) 1 1,.bool true,.slice none 0 0]) (es:=([⟨(⟨[zg1 100],true⟩,some ⟨w1.heap.size,0,none⟩,1),(⟨[zg1 99],true⟩,some ⟨w2.heap.size,0,none⟩,1),.slice none 0 0,[]⟩]:List zd8)) HB2.out rfl rfl (by show 1≤1000;omega) (by
  intro x hx;simp only[List.mem_cons,List.not_mem_nil,or_false] at hx
  subst hx;exact⟨zgk (l:=[zg1 100]) HP1.out rfl (by decide) (by decide),zgk (l:=[zg1 99]) HP2.out rfl (by decide) (by decide),zgl _,Nat.zero_le _⟩)
 exact HQ.out _ _ _ _ _ _ _ _ _ _ _ (hd_ ⟨rfl,H.1,H.2⟩)
theorem mpR5 (ops:Array Oper)(hops:Tryz.f25.body.bind (zci 5)=some ops)(Q:Exit→Act→World→Prop)(w1:World)
  (hQ:∀(el em en eo er et eu ez eA:Value) (es:List zd8) (A':Option Addr) (n c:Nat) (w':World),Hid (es.map zd8.pl=zg3 1∧zdi w' (.slice A' n c) es∧Below w1.heap.size w1 w')→Q .normal ⟨#[u0,u1,.slice A' n c,u3,u4,u5,u6,u7,u8,u9,gn,gt,gu,gx,gy,el,em,en,eo,er,et,eu,ez,eA,gJ,gK,gL,gM,gN,gO,gP,gQ,gR,gT,gV,gW,gX,gY,gZ,i6,i7,i8,ia,ib,ic,ie,ig,ii,ij,ik,il,im,io,ip,iq,ir,iu,iv,iw,ix,iy,iz,iA,iB,iC,iD,iE,iF,iG,iH,iI,iJ,iK,iL,iM,iN,iO,iP,iQ,iR,iS,iT,iU,iV,iW,iX,iY,iZ,j0,j1,j2,j5,j6,j7,j8,j9,jb,jd,je],[]⟩ w'):
  (Code.region 5 ops false).wp prog Q ⟨#[u0,u1,u2,u3,u4,u5,u6,u7,u8,u9,gn,gt,gu,gx,gy,gz,gA,gC,gD,gE,gF,gG,gH,gI,gJ,gK,gL,gM,gN,gO,gP,gQ,gR,gT,gV,gW,gX,gY,gZ,i6,i7,i8,ia,ib,ic,ie,ig,ii,ij,ik,il,im,io,ip,iq,ir,iu,iv,iw,ix,iy,iz,iA,iB,iC,iD,iE,iF,iG,iH,iI,iJ,iK,iL,iM,iN,iO,iP,iQ,iR,iS,iT,iU,iV,iW,iX,iY,iZ,j0,j1,j2,j5,j6,j7,j8,j9,jb,jd,je],[]⟩ w1:=by
 simp only[Tryz.f25,Option.bind_some,zci] at hops
 simp at hops
 subst hops;have HQ:=hd_ hQ;clear hQ;have HB0:Hid (Below w1.heap.size w1 w1):=hd_ (Below.refl _ _);go_wp2_with fail;refine (zgh _ _ _ _ _ rfl _).mono ?_;rintro e w2 ⟨rfl,hb⟩;dsimp only;have HP1:=hd_ (zgj (cs:=[.string ⟨#[100]⟩]) hb);have HB1:=hd_ (z0r HB0.out (zgi hb));clear hb;go_wp2_with fail;refine (zgh _ _ _ _ _ rfl _).mono ?_;rintro e w3 ⟨rfl,hb⟩;dsimp only;have HP2:=hd_ (zgj (cs:=[.string ⟨#[99]⟩]) hb);have HP1:=hd_ (HP1.out.below (zgi hb) HP1.out.lt);have HB2:=hd_ (z0r HB1.out (zgi hb));clear hb;go_wp2_with fail;refine (zgh _ _ _ _ _ rfl _).mono ?_;rintro e w4 ⟨rfl,hb⟩;dsimp only;have HP3:=hd_ (zgj (cs:=[.string ⟨#[100]⟩,.string ⟨#[120]⟩]) hb);have HP1:=hd_ (HP1.out.below (zgi hb) HP1.out.lt);have HP2:=hd_ (HP2.out.below (zgi hb) HP2.out.lt);have HB3:=hd_ (z0r HB2.out (zgi hb));clear hb;go_wp2_with fail;have HB9:Hid (Below w1.heap.size w1 (w4.alloc (.cells #[.slice (some ⟨w3.heap.size,0,none⟩) 2 2,.bool true] 97))):=hd_ (z0r HB3.out ((Below.refl _ _).alloc (Nat.le_refl _) _));have HH9:=hd_ (z0l w4 [.slice (some ⟨w3.heap.size,0,none⟩) 2 2,.bool true] 97);have HP1:=hd_ (HP1.out.alloc (.cells #[.slice (some ⟨w3.heap.size,0,none⟩) 2 2,.bool true] 97));have HP2:=hd_ (HP2.out.alloc (.cells #[.slice (some ⟨w3.heap.size,0,none⟩) 2 2,.bool true] 97));have HP3:=hd_ (HP3.out.alloc (.cells #[.slice (some ⟨w3.heap.size,0,none⟩) 2 2,.bool true] 97));have H:=zgm (w2:=(w4.alloc (.cells #[.slice (some ⟨w3.heap.size,0,none⟩) 2 2,.bool true] 97))) (n:=1) (cs:=[.slice (some ⟨w1.heap.size,0,none⟩) 1 1,.bool true,.slice (some ⟨w2.heap.size,0,none⟩) 1 1,.bool true,.slice (some ⟨w4.heap.size,0,none⟩) 1 1]) (es:=([⟨(⟨[zg1 100],true⟩,some ⟨w1.heap.size,0,none⟩,1),(⟨[zg1 99],true⟩,some ⟨w2.heap.size,0,none⟩,1),.slice (some ⟨w4.heap.size,0,none⟩) 1 1,[(⟨[zg1 100,zg1 120],true⟩,some ⟨w3.heap.size,0,none⟩,2)]⟩]:List zd8)) HB9.out rfl rfl (by show 1≤1000;omega) (by
  intro x hx;simp only[List.mem_cons,List.not_mem_nil,or_false] at hx
  subst hx;exact⟨zgk (l:=[zg1 100]) HP1.out rfl (by decide) (by decide),zgk (l:=[zg1 99]) HP2.out rfl (by decide) (by decide),⟨HH9.out.row (size:=2) (n:=1) rfl (by decide),fun q hq=>by rw[List.mem_singleton] at hq;subst hq;exact zgk (l:=[zg1 100,zg1 120]) HP3.out rfl (by decide) (by decide)⟩,(by show 1≤1000;omega)⟩)
 simp only[World.size_alloc] at H
 exact HQ.out _ _ _ _ _ _ _ _ _ _ _ _ _ _ (hd_ ⟨rfl,H.1,H.2⟩)
theorem mpR7 (ops:Array Oper)(hops:Tryz.f25.body.bind (zci 7)=some ops)(Q:Exit→Act→World→Prop)(w1:World)
  (hQ:∀(eD eE eF eG eH eI eJ eK eL eM eN:Value) (es:List zd8) (A':Option Addr) (n c:Nat) (w':World),Hid (es.map zd8.pl=zg3 2∧zdi w' (.slice A' n c) es∧Below w1.heap.size w1 w')→Q .normal ⟨#[u0,u1,.slice A' n c,u3,u4,u5,u6,u7,u8,u9,gn,gt,gu,gx,gy,gz,gA,gC,gD,gE,gF,gG,gH,gI,gJ,gK,eD,eE,eF,eG,eH,eI,eJ,eK,eL,eM,eN,gY,gZ,i6,i7,i8,ia,ib,ic,ie,ig,ii,ij,ik,il,im,io,ip,iq,ir,iu,iv,iw,ix,iy,iz,iA,iB,iC,iD,iE,iF,iG,iH,iI,iJ,iK,iL,iM,iN,iO,iP,iQ,iR,iS,iT,iU,iV,iW,iX,iY,iZ,j0,j1,j2,j5,j6,j7,j8,j9,jb,jd,je],[]⟩ w'):
  (Code.region 7 ops false).wp prog Q ⟨#[u0,u1,u2,u3,u4,u5,u6,u7,u8,u9,gn,gt,gu,gx,gy,gz,gA,gC,gD,gE,gF,gG,gH,gI,gJ,gK,gL,gM,gN,gO,gP,gQ,gR,gT,gV,gW,gX,gY,gZ,i6,i7,i8,ia,ib,ic,ie,ig,ii,ij,ik,il,im,io,ip,iq,ir,iu,iv,iw,ix,iy,iz,iA,iB,iC,iD,iE,iF,iG,iH,iI,iJ,iK,iL,iM,iN,iO,iP,iQ,iR,iS,iT,iU,iV,iW,iX,iY,iZ,j0,j1,j2,j5,j6,j7,j8,j9,jb,jd,je],[]⟩ w1:=by
 simp only[Tryz.f25,Option.bind_some,zci] at hops
 simp at hops
 subst hops;have HQ:=hd_ hQ;clear hQ;have HB0:Hid (Below w1.heap.size w1 w1):=hd_ (Below.refl _ _);go_wp2_with fail;refine (zgh _ _ _ _ _ rfl _).mono ?_;rintro e w2 ⟨rfl,hb⟩;dsimp only;have HP1:=hd_ (zgj (cs:=[.string ⟨#[100]⟩,.string ⟨#[120]⟩]) hb);have HB1:=hd_ (z0r HB0.out (zgi hb));clear hb;go_wp2_with fail;refine (zgh _ _ _ _ _ rfl _).mono ?_;rintro e w3 ⟨rfl,hb⟩;dsimp only;have HP2:=hd_ (zgj (cs:=[.string ⟨#[99]⟩]) hb);have HP1:=hd_ (HP1.out.below (zgi hb) HP1.out.lt);have HB2:=hd_ (z0r HB1.out (zgi hb));clear hb;go_wp2_with fail;refine (zgh _ _ _ _ _ rfl _).mono ?_;rintro e w4 ⟨rfl,hb⟩;dsimp only;have HP3:=hd_ (zgj (cs:=[.string ⟨#[101]⟩]) hb);have HP1:=hd_ (HP1.out.below (zgi hb) HP1.out.lt);have HP2:=hd_ (HP2.out.below (zgi hb) HP2.out.lt);have HB3:=hd_ (z0r HB2.out (zgi hb));clear hb;go_wp2_with fail;refine (zgh _ _ _ _ _ rfl _).mono ?_;rintro e w5 ⟨rfl,hb⟩;dsimp only;have HP4:=hd_ (zgj (cs:=[.string ⟨#[119]⟩]) hb);have HP1:=hd_ (HP1.out.below (zgi hb) HP1.out.lt);have HP2:=hd_ (HP2.out.below (zgi hb) HP2.out.lt);have HP3:=hd_ (HP3.out.below (zgi hb) HP3.out.lt);have HB4:=hd_ (z0r HB3.out (zgi hb));clear hb;go_wp2_with fail;have H:=zgm (w2:=w5) (n:=2) (cs:=[.slice (some ⟨w1.heap.size,0,none⟩) 2 2,.bool true,.slice (some ⟨w2.heap.size,0,none⟩) 1 1,.bool true,.slice none 0 0,.slice (some ⟨w3.heap.size,0,none⟩) 1 1,.bool true,.slice (some ⟨w4.heap.size,0,none⟩) 1 1,.bool true,.slice none 0 0]) (es:=([⟨(⟨[zg1 100,zg1 120],true⟩,some ⟨w1.heap.size,0,none⟩,2),(⟨[zg1 99],true⟩,some ⟨w2.heap.size,0,none⟩,1),.slice none 0 0,[]⟩,⟨(⟨[zg1 101],true⟩,some ⟨w3.heap.size,0,none⟩,1),(⟨[zg1 119],true⟩,some ⟨w4.heap.size,0,none⟩,1),.slice none 0 0,[]⟩]:List zd8)) HB4.out rfl rfl (by show 2≤1000;omega) (by
  intro x hx;simp only[List.mem_cons,List.not_mem_nil,or_false] at hx
  rcases hx with rfl | rfl
  ·exact⟨zgk (l:=[zg1 100,zg1 120]) HP1.out rfl (by decide) (by decide),zgk (l:=[zg1 99]) HP2.out rfl (by decide) (by decide),zgl _,Nat.zero_le _⟩
  ·exact⟨zgk (l:=[zg1 101]) HP3.out rfl (by decide) (by decide),zgk (l:=[zg1 119]) HP4.out rfl (by decide) (by decide),zgl _,Nat.zero_le _⟩)
 exact HQ.out _ _ _ _ _ _ _ _ _ _ _ _ _ _ _ _ (hd_ ⟨rfl,H.1,H.2⟩)
theorem mpR9 (ops:Array Oper)(hops:Tryz.f25.body.bind (zci 9)=some ops)(Q:Exit→Act→World→Prop)(w1:World)
  (hQ:∀(eQ eR eS eT eU eV eW eX eY eZ fa fd fe ff fg fh:Value) (es:List zd8) (A':Option Addr) (n c:Nat) (w':World),Hid (es.map zd8.pl=zg3 3∧zdi w' (.slice A' n c) es∧Below w1.heap.size w1 w')→Q .normal ⟨#[u0,u1,.slice A' n c,u3,u4,u5,u6,u7,u8,u9,gn,gt,gu,gx,gy,gz,gA,gC,gD,gE,gF,gG,gH,gI,gJ,gK,gL,gM,gN,gO,gP,gQ,gR,gT,gV,gW,gX,gY,gZ,eQ,eR,eS,eT,eU,eV,eW,eX,eY,eZ,fa,fd,fe,ff,fg,fh,ir,iu,iv,iw,ix,iy,iz,iA,iB,iC,iD,iE,iF,iG,iH,iI,iJ,iK,iL,iM,iN,iO,iP,iQ,iR,iS,iT,iU,iV,iW,iX,iY,iZ,j0,j1,j2,j5,j6,j7,j8,j9,jb,jd,je],[]⟩ w'):
  (Code.region 9 ops false).wp prog Q ⟨#[u0,u1,u2,u3,u4,u5,u6,u7,u8,u9,gn,gt,gu,gx,gy,gz,gA,gC,gD,gE,gF,gG,gH,gI,gJ,gK,gL,gM,gN,gO,gP,gQ,gR,gT,gV,gW,gX,gY,gZ,i6,i7,i8,ia,ib,ic,ie,ig,ii,ij,ik,il,im,io,ip,iq,ir,iu,iv,iw,ix,iy,iz,iA,iB,iC,iD,iE,iF,iG,iH,iI,iJ,iK,iL,iM,iN,iO,iP,iQ,iR,iS,iT,iU,iV,iW,iX,iY,iZ,j0,j1,j2,j5,j6,j7,j8,j9,jb,jd,je],[]⟩ w1:=by
 simp only[Tryz.f25,Option.bind_some,zci] at hops
 simp at hops
 subst hops;have HQ:=hd_ hQ;clear hQ;have HB0:Hid (Below w1.heap.size w1 w1):=hd_ (Below.refl _ _);go_wp2_with fail;refine (zgh _ _ _ _ _ rfl _).mono ?_;rintro e w2 ⟨rfl,hb⟩;dsimp only;have HP1:=hd_ (zgj (cs:=[.string ⟨#[100]⟩,.string ⟨#[97]⟩]) hb);have HB1:=hd_ (z0r HB0.out (zgi hb));clear hb;go_wp2_with fail;refine (zgh _ _ _ _ _ rfl _).mono ?_;rintro e w3 ⟨rfl,hb⟩;dsimp only;have HP2:=hd_ (zgj (cs:=[.string ⟨#[99]⟩,.string ⟨#[98]⟩]) hb);have HP1:=hd_ (HP1.out.below (zgi hb) HP1.out.lt);have HB2:=hd_ (z0r HB1.out (zgi hb));clear hb;go_wp2_with fail;refine (zgh _ _ _ _ _ rfl _).mono ?_;rintro e w4 ⟨rfl,hb⟩;dsimp only;have HP3:=hd_ (zgj (cs:=[.string ⟨#[100]⟩,.string ⟨#[98]⟩]) hb);have HP1:=hd_ (HP1.out.below (zgi hb) HP1.out.lt);have HP2:=hd_ (HP2.out.below (zgi hb) HP2.out.lt);have HB3:=hd_ (z0r HB2.out (zgi hb));clear hb;go_wp2_with fail;refine (zgh _ _ _ _ _ rfl _).mono ?_;rintro e w5 ⟨rfl,hb⟩;dsimp only;have HP4:=hd_ (zgj (cs:=[.string ⟨#[99]⟩,.string ⟨#[97]⟩]) hb);have HP1:=hd_ (HP1.out.below (zgi hb) HP1.out.lt);have HP2:=hd_ (HP2.out.below (zgi hb) HP2.out.lt);have HP3:=hd_ (HP3.out.below (zgi hb) HP3.out.lt);have HB4:=hd_ (z0r HB3.out (zgi hb));clear hb;go_wp2_with fail;refine (zgh _ _ _ _ _ rfl _).mono ?_;rintro e w6 ⟨rfl,hb⟩;dsimp only;have HP5:=hd_ (zgj (cs:=[.string ⟨#[100]⟩,.string ⟨#[120]⟩]) hb);have HP1:=hd_ (HP1.out.below (zgi hb) HP1.out.lt);have HP2:=hd_ (HP2.out.below (zgi hb) HP2.out.lt);have HP3:=hd_ (HP3.out.below (zgi hb) HP3.out.lt);have HP4:=hd_ (HP4.out.below (zgi hb) HP4.out.lt);have HB5:=hd_ (z0r HB4.out (zgi hb));clear hb;go_wp2_with fail;refine (zgh _ _ _ _ _ rfl _).mono ?_;rintro e w7 ⟨rfl,hb⟩;dsimp only;have HP6:=hd_ (zgj (cs:=[.string ⟨#[99]⟩,.string ⟨#[120]⟩]) hb);have HP1:=hd_ (HP1.out.below (zgi hb) HP1.out.lt);have HP2:=hd_ (HP2.out.below (zgi hb) HP2.out.lt);have HP3:=hd_ (HP3.out.below (zgi hb) HP3.out.lt);have HP4:=hd_ (HP4.out.below (zgi hb) HP4.out.lt);have HP5:=hd_ (HP5.out.below (zgi hb) HP5.out.lt);have HB6:=hd_ (z0r HB5.out (zgi hb))
 clear hb;go_wp2_with fail;have H:=zgm (w2:=w7) (n:=3) (cs:=[.slice (some ⟨w1.heap.size,0,none⟩) 2 2,.bool false,.slice (some ⟨w2.heap.size,0,none⟩) 2 2,.bool false,.slice none 0 0,.slice (some ⟨w3.heap.size,0,none⟩) 2 2,.bool false,.slice (some ⟨w4.heap.size,0,none⟩) 2 2,.bool false,.slice none 0 0,.slice (some ⟨w5.heap.size,0,none⟩) 2 2,.bool true,.slice (some ⟨w6.heap.size,0,none⟩) 2 2,.bool true,.slice none 0 0]) (es:=([⟨(⟨[zg1 100,zg1 97],false⟩,some ⟨w1.heap.size,0,none⟩,2),(⟨[zg1 99,zg1 98],false⟩,some ⟨w2.heap.size,0,none⟩,2),.slice none 0 0,[]⟩,⟨(⟨[zg1 100,zg1 98],false⟩,some ⟨w3.heap.size,0,none⟩,2),(⟨[zg1 99,zg1 97],false⟩,some ⟨w4.heap.size,0,none⟩,2),.slice none 0 0,[]⟩,⟨(⟨[zg1 100,zg1 120],true⟩,some ⟨w5.heap.size,0,none⟩,2),(⟨[zg1 99,zg1 120],true⟩,some ⟨w6.heap.size,0,none⟩,2),.slice none 0 0,[]⟩]:List zd8)) HB6.out rfl rfl (by show 3≤1000;omega) (by
  intro x hx;simp only[List.mem_cons,List.not_mem_nil,or_false] at hx
  rcases hx with rfl | rfl | rfl
  ·exact⟨zgk (l:=[zg1 100,zg1 97]) HP1.out rfl (by decide) (by decide),zgk (l:=[zg1 99,zg1 98]) HP2.out rfl (by decide) (by decide),zgl _,Nat.zero_le _⟩
  ·exact⟨zgk (l:=[zg1 100,zg1 98]) HP3.out rfl (by decide) (by decide),zgk (l:=[zg1 99,zg1 97]) HP4.out rfl (by decide) (by decide),zgl _,Nat.zero_le _⟩
  ·exact⟨zgk (l:=[zg1 100,zg1 120]) HP5.out rfl (by decide) (by decide),zgk (l:=[zg1 99,zg1 120]) HP6.out rfl (by decide) (by decide),zgl _,Nat.zero_le _⟩)
 exact HQ.out _ _ _ _ _ _ _ _ _ _ _ _ _ _ _ _ _ _ _ _ _ (hd_ ⟨rfl,H.1,H.2⟩)
theorem mpR11 (ops:Array Oper)(hops:Tryz.f25.body.bind (zci 11)=some ops)(Q:Exit→Act→World→Prop)(w1:World)
  (hQ:∀(fm fp fq ft fu fv fw fx fy fA fB fC fD fE fF fG:Value) (es:List zd8) (A':Option Addr) (n c:Nat) (w':World),Hid (es.map zd8.pl=zg3 4∧zdi w' (.slice A' n c) es∧Below w1.heap.size w1 w')→Q .normal ⟨#[u0,u1,.slice A' n c,u3,u4,u5,u6,u7,u8,u9,gn,gt,gu,gx,gy,gz,gA,gC,gD,gE,gF,gG,gH,gI,gJ,gK,gL,gM,gN,gO,gP,gQ,gR,gT,gV,gW,gX,gY,gZ,i6,i7,i8,ia,ib,ic,ie,ig,ii,ij,ik,il,im,io,ip,iq,ir,iu,fm,fp,fq,ft,fu,fv,fw,fx,fy,fA,fB,fC,fD,fE,fF,fG,iL,iM,iN,iO,iP,iQ,iR,iS,iT,iU,iV,iW,iX,iY,iZ,j0,j1,j2,j5,j6,j7,j8,j9,jb,jd,je],[]⟩ w'):
  (Code.region 11 ops false).wp prog Q ⟨#[u0,u1,u2,u3,u4,u5,u6,u7,u8,u9,gn,gt,gu,gx,gy,gz,gA,gC,gD,gE,gF,gG,gH,gI,gJ,gK,gL,gM,gN,gO,gP,gQ,gR,gT,gV,gW,gX,gY,gZ,i6,i7,i8,ia,ib,ic,ie,ig,ii,ij,ik,il,im,io,ip,iq,ir,iu,iv,iw,ix,iy,iz,iA,iB,iC,iD,iE,iF,iG,iH,iI,iJ,iK,iL,iM,iN,iO,iP,iQ,iR,iS,iT,iU,iV,iW,iX,iY,iZ,j0,j1,j2,j5,j6,j7,j8,j9,jb,jd,je],[]⟩ w1:=by
 simp only[Tryz.f25,Option.bind_some,zci] at hops
 simp at hops
 subst hops;have HQ:=hd_ hQ;clear hQ;have HB0:Hid (Below w1.heap.size w1 w1):=hd_ (Below.refl _ _);go_wp2_with fail;refine (zgh _ _ _ _ _ rfl _).mono ?_;rintro e w2 ⟨rfl,hb⟩;dsimp only;have HP1:=hd_ (zgj (cs:=[.string ⟨#[100]⟩,.string ⟨#[97]⟩]) hb);have HB1:=hd_ (z0r HB0.out (zgi hb));clear hb;go_wp2_with fail;refine (zgh _ _ _ _ _ rfl _).mono ?_;rintro e w3 ⟨rfl,hb⟩;dsimp only;have HP2:=hd_ (zgj (cs:=[.string ⟨#[99]⟩,.string ⟨#[97]⟩]) hb);have HP1:=hd_ (HP1.out.below (zgi hb) HP1.out.lt);have HB2:=hd_ (z0r HB1.out (zgi hb));clear hb;go_wp2_with fail;refine (zgh _ _ _ _ _ rfl _).mono ?_;rintro e w4 ⟨rfl,hb⟩;dsimp only;have HP3:=hd_ (zgj (cs:=[.string ⟨#[100]⟩,.string ⟨#[98]⟩]) hb);have HP1:=hd_ (HP1.out.below (zgi hb) HP1.out.lt);have HP2:=hd_ (HP2.out.below (zgi hb) HP2.out.lt);have HB3:=hd_ (z0r HB2.out (zgi hb));clear hb;go_wp2_with fail;refine (zgh _ _ _ _ _ rfl _).mono ?_;rintro e w5 ⟨rfl,hb⟩;dsimp only;have HP4:=hd_ (zgj (cs:=[.string ⟨#[99]⟩,.string ⟨#[98]⟩]) hb);have HP1:=hd_ (HP1.out.below (zgi hb) HP1.out.lt);have HP2:=hd_ (HP2.out.below (zgi hb) HP2.out.lt);have HP3:=hd_ (HP3.out.below (zgi hb) HP3.out.lt);have HB4:=hd_ (z0r HB3.out (zgi hb));clear hb;go_wp2_with fail;refine (zgh _ _ _ _ _ rfl _).mono ?_;rintro e w6 ⟨rfl,hb⟩;dsimp only;have HP5:=hd_ (zgj (cs:=[.string ⟨#[101]⟩,.string ⟨#[97]⟩]) hb);have HP1:=hd_ (HP1.out.below (zgi hb) HP1.out.lt);have HP2:=hd_ (HP2.out.below (zgi hb) HP2.out.lt);have HP3:=hd_ (HP3.out.below (zgi hb) HP3.out.lt);have HP4:=hd_ (HP4.out.below (zgi hb) HP4.out.lt);have HB5:=hd_ (z0r HB4.out (zgi hb));clear hb;go_wp2_with fail;refine (zgh _ _ _ _ _ rfl _).mono ?_;rintro e w7 ⟨rfl,hb⟩;dsimp only;have HP6:=hd_ (zgj (cs:=[.string ⟨#[99]⟩,.string ⟨#[101]⟩]) hb);have HP1:=hd_ (HP1.out.below (zgi hb) HP1.out.lt);have HP2:=hd_ (HP2.out.below (zgi hb) HP2.out.lt);have HP3:=hd_ (HP3.out.below (zgi hb) HP3.out.lt);have HP4:=hd_ (HP4.out.below (zgi hb) HP4.out.lt);have HP5:=hd_ (HP5.out.below (zgi hb) HP5.out.lt);have HB6:=hd_ (z0r HB5.out (zgi hb))
 clear hb;go_wp2_with fail;have H:=zgm (w2:=w7) (n:=3) (cs:=[.slice (some ⟨w1.heap.size,0,none⟩) 2 2,.bool false,.slice (some ⟨w2.heap.size,0,none⟩) 2 2,.bool false,.slice none 0 0,.slice (some ⟨w3.heap.size,0,none⟩) 2 2,.bool false,.slice (some ⟨w4.heap.size,0,none⟩) 2 2,.bool false,.slice none 0 0,.slice (some ⟨w5.heap.size,0,none⟩) 2 2,.bool false,.slice (some ⟨w6.heap.size,0,none⟩) 2 2,.bool false,.slice none 0 0]) (es:=([⟨(⟨[zg1 100,zg1 97],false⟩,some ⟨w1.heap.size,0,none⟩,2),(⟨[zg1 99,zg1 97],false⟩,some ⟨w2.heap.size,0,none⟩,2),.slice none 0 0,[]⟩,⟨(⟨[zg1 100,zg1 98],false⟩,some ⟨w3.heap.size,0,none⟩,2),(⟨[zg1 99,zg1 98],false⟩,some ⟨w4.heap.size,0,none⟩,2),.slice none 0 0,[]⟩,⟨(⟨[zg1 101,zg1 97],false⟩,some ⟨w5.heap.size,0,none⟩,2),(⟨[zg1 99,zg1 101],false⟩,some ⟨w6.heap.size,0,none⟩,2),.slice none 0 0,[]⟩]:List zd8)) HB6.out rfl rfl (by show 3≤1000;omega) (by
  intro x hx;simp only[List.mem_cons,List.not_mem_nil,or_false] at hx
  rcases hx with rfl | rfl | rfl
  ·exact⟨zgk (l:=[zg1 100,zg1 97]) HP1.out rfl (by decide) (by decide),zgk (l:=[zg1 99,zg1 97]) HP2.out rfl (by decide) (by decide),zgl _,Nat.zero_le _⟩
  ·exact⟨zgk (l:=[zg1 100,zg1 98]) HP3.out rfl (by decide) (by decide),zgk (l:=[zg1 99,zg1 98]) HP4.out rfl (by decide) (by decide),zgl _,Nat.zero_le _⟩
  ·exact⟨zgk (l:=[zg1 101,zg1 97]) HP5.out rfl (by decide) (by decide),zgk (l:=[zg1 99,zg1 101]) HP6.out rfl (by decide) (by decide),zgl _,Nat.zero_le _⟩)
 exact HQ.out _ _ _ _ _ _ _ _ _ _ _ _ _ _ _ _ _ _ _ _ _ (hd_ ⟨rfl,H.1,H.2⟩)
theorem mpR13 (ops:Array Oper)(hops:Tryz.f25.body.bind (zci 13)=some ops)(Q:Exit→Act→World→Prop)(w1:World)
  (hQ:∀(fJ fK fL fM fN fO fP fQ fR fS fT:Value) (es:List zd8) (A':Option Addr) (n c:Nat) (w':World),Hid (es.map zd8.pl=zg3 5∧zdi w' (.slice A' n c) es∧Below w1.heap.size w1 w')→Q .normal ⟨#[u0,u1,.slice A' n c,u3,u4,u5,u6,u7,u8,u9,gn,gt,gu,gx,gy,gz,gA,gC,gD,gE,gF,gG,gH,gI,gJ,gK,gL,gM,gN,gO,gP,gQ,gR,gT,gV,gW,gX,gY,gZ,i6,i7,i8,ia,ib,ic,ie,ig,ii,ij,ik,il,im,io,ip,iq,ir,iu,iv,iw,ix,iy,iz,iA,iB,iC,iD,iE,iF,iG,iH,iI,iJ,iK,iL,iM,fJ,fK,fL,fM,fN,fO,fP,fQ,fR,fS,fT,iY,iZ,j0,j1,j2,j5,j6,j7,j8,j9,jb,jd,je],[]⟩ w'):
  (Code.region 13 ops false).wp prog Q ⟨#[u0,u1,u2,u3,u4,u5,u6,u7,u8,u9,gn,gt,gu,gx,gy,gz,gA,gC,gD,gE,gF,gG,gH,gI,gJ,gK,gL,gM,gN,gO,gP,gQ,gR,gT,gV,gW,gX,gY,gZ,i6,i7,i8,ia,ib,ic,ie,ig,ii,ij,ik,il,im,io,ip,iq,ir,iu,iv,iw,ix,iy,iz,iA,iB,iC,iD,iE,iF,iG,iH,iI,iJ,iK,iL,iM,iN,iO,iP,iQ,iR,iS,iT,iU,iV,iW,iX,iY,iZ,j0,j1,j2,j5,j6,j7,j8,j9,jb,jd,je],[]⟩ w1:=by
 simp only[Tryz.f25,Option.bind_some,zci] at hops
 simp at hops
 subst hops;have HQ:=hd_ hQ;clear hQ;have HB0:Hid (Below w1.heap.size w1 w1):=hd_ (Below.refl _ _);go_wp2_with fail;refine (zgh _ _ _ _ _ rfl _).mono ?_;rintro e w2 ⟨rfl,hb⟩;dsimp only;have HP1:=hd_ (zgj (cs:=[.string ⟨#[101]⟩]) hb);have HB1:=hd_ (z0r HB0.out (zgi hb));clear hb;go_wp2_with fail;refine (zgh _ _ _ _ _ rfl _).mono ?_;rintro e w3 ⟨rfl,hb⟩;dsimp only;have HP2:=hd_ (zgj (cs:=[.string ⟨#[99]⟩]) hb);have HP1:=hd_ (HP1.out.below (zgi hb) HP1.out.lt);have HB2:=hd_ (z0r HB1.out (zgi hb));clear hb;go_wp2_with fail;refine (zgh _ _ _ _ _ rfl _).mono ?_;rintro e w4 ⟨rfl,hb⟩;dsimp only;have HP3:=hd_ (zgj (cs:=[.string ⟨#[100]⟩,.string ⟨#[42]⟩,.string ⟨#[97]⟩]) hb);have HP1:=hd_ (HP1.out.below (zgi hb) HP1.out.lt);have HP2:=hd_ (HP2.out.below (zgi hb) HP2.out.lt);have HB3:=hd_ (z0r HB2.out (zgi hb));clear hb;go_wp2_with fail;refine (zgh _ _ _ _ _ rfl _).mono ?_;rintro e w5 ⟨rfl,hb⟩;dsimp only;have HP4:=hd_ (zgj (cs:=[.string ⟨#[119]⟩,.string ⟨#[42]⟩,.string ⟨#[122]⟩]) hb);have HP1:=hd_ (HP1.out.below (zgi hb) HP1.out.lt);have HP2:=hd_ (HP2.out.below (zgi hb) HP2.out.lt);have HP3:=hd_ (HP3.out.below (zgi hb) HP3.out.lt);have HB4:=hd_ (z0r HB3.out (zgi hb));clear hb;go_wp2_with fail;have H:=zgm (w2:=w5) (n:=2) (cs:=[.slice (some ⟨w1.heap.size,0,none⟩) 1 1,.bool true,.slice (some ⟨w2.heap.size,0,none⟩) 1 1,.bool true,.slice none 0 0,.slice (some ⟨w3.heap.size,0,none⟩) 3 3,.bool false,.slice (some ⟨w4.heap.size,0,none⟩) 3 3,.bool false,.slice none 0 0]) (es:=([⟨(⟨[zg1 101],true⟩,some ⟨w1.heap.size,0,none⟩,1),(⟨[zg1 99],true⟩,some ⟨w2.heap.size,0,none⟩,1),.slice none 0 0,[]⟩,⟨(⟨[zg1 100,zg2,zg1 97],false⟩,some ⟨w3.heap.size,0,none⟩,3),(⟨[zg1 119,zg2,zg1 122],false⟩,some ⟨w4.heap.size,0,none⟩,3),.slice none 0 0,[]⟩]:List zd8)) HB4.out rfl rfl (by show 2≤1000;omega) (by
  intro x hx;simp only[List.mem_cons,List.not_mem_nil,or_false] at hx
  rcases hx with rfl | rfl
  ·exact⟨zgk (l:=[zg1 101]) HP1.out rfl (by decide) (by decide),zgk (l:=[zg1 99]) HP2.out rfl (by decide) (by decide),zgl _,Nat.zero_le _⟩
  ·exact⟨zgk (l:=[zg1 100,zg2,zg1 97]) HP3.out rfl (by decide) (by decide),zgk (l:=[zg1 119,zg2,zg1 122]) HP4.out rfl (by decide) (by decide),zgl _,Nat.zero_le _⟩)
 exact HQ.out _ _ _ _ _ _ _ _ _ _ _ _ _ _ _ _ (hd_ ⟨rfl,H.1,H.2⟩)
theorem mpR15 (ops:Array Oper)(hops:Tryz.f25.body.bind (zci 15)=some ops)(Q:Exit→Act→World→Prop)(w1:World)
  (hQ:∀(fW fX fY fZ ga gb gf gg gh gi gj:Value) (es:List zd8) (A':Option Addr) (n c:Nat) (w':World),Hid (es.map zd8.pl=zg3 6∧zdi w' (.slice A' n c) es∧Below w1.heap.size w1 w')→Q .normal ⟨#[u0,u1,.slice A' n c,u3,u4,u5,u6,u7,u8,u9,gn,gt,gu,gx,gy,gz,gA,gC,gD,gE,gF,gG,gH,gI,gJ,gK,gL,gM,gN,gO,gP,gQ,gR,gT,gV,gW,gX,gY,gZ,i6,i7,i8,ia,ib,ic,ie,ig,ii,ij,ik,il,im,io,ip,iq,ir,iu,iv,iw,ix,iy,iz,iA,iB,iC,iD,iE,iF,iG,iH,iI,iJ,iK,iL,iM,iN,iO,iP,iQ,iR,iS,iT,iU,iV,iW,iX,iY,iZ,fW,fX,fY,fZ,ga,gb,gf,gg,gh,gi,gj],[]⟩ w'):
  (Code.region 15 ops false).wp prog Q ⟨#[u0,u1,u2,u3,u4,u5,u6,u7,u8,u9,gn,gt,gu,gx,gy,gz,gA,gC,gD,gE,gF,gG,gH,gI,gJ,gK,gL,gM,gN,gO,gP,gQ,gR,gT,gV,gW,gX,gY,gZ,i6,i7,i8,ia,ib,ic,ie,ig,ii,ij,ik,il,im,io,ip,iq,ir,iu,iv,iw,ix,iy,iz,iA,iB,iC,iD,iE,iF,iG,iH,iI,iJ,iK,iL,iM,iN,iO,iP,iQ,iR,iS,iT,iU,iV,iW,iX,iY,iZ,j0,j1,j2,j5,j6,j7,j8,j9,jb,jd,je],[]⟩ w1:=by
 simp only[Tryz.f25,Option.bind_some,zci] at hops
 simp at hops
 subst hops;have HQ:=hd_ hQ;clear hQ;have HB0:Hid (Below w1.heap.size w1 w1):=hd_ (Below.refl _ _);go_wp2_with fail;refine (zgh _ _ _ _ _ rfl _).mono ?_;rintro e w2 ⟨rfl,hb⟩;dsimp only;have HP1:=hd_ (zgj (cs:=[.string ⟨#[100]⟩]) hb);have HB1:=hd_ (z0r HB0.out (zgi hb));clear hb;go_wp2_with fail;refine (zgh _ _ _ _ _ rfl _).mono ?_;rintro e w3 ⟨rfl,hb⟩;dsimp only;have HP2:=hd_ (zgj (cs:=[.string ⟨#[99]⟩]) hb);have HP1:=hd_ (HP1.out.below (zgi hb) HP1.out.lt);have HB2:=hd_ (z0r HB1.out (zgi hb));clear hb;go_wp2_with fail;refine (zgh _ _ _ _ _ rfl _).mono ?_;rintro e w4 ⟨rfl,hb⟩;dsimp only;have HP3:=hd_ (zgj (cs:=[.string ⟨#[101]⟩]) hb);have HP1:=hd_ (HP1.out.below (zgi hb) HP1.out.lt);have HP2:=hd_ (HP2.out.below (zgi hb) HP2.out.lt);have HB3:=hd_ (z0r HB2.out (zgi hb));clear hb;go_wp2_with fail;refine (zgh _ _ _ _ _ rfl _).mono ?_;rintro e w5 ⟨rfl,hb⟩;dsimp only;have HP4:=hd_ (zgj (cs:=[.string ⟨#[119]⟩]) hb);have HP1:=hd_ (HP1.out.below (zgi hb) HP1.out.lt);have HP2:=hd_ (HP2.out.below (zgi hb) HP2.out.lt);have HP3:=hd_ (HP3.out.below (zgi hb) HP3.out.lt);have HB4:=hd_ (z0r HB3.out (zgi hb));clear hb;go_wp2_with fail;have H:=zgm (w2:=w5) (n:=2) (cs:=[.slice (some ⟨w1.heap.size,0,none⟩) 1 1,.bool true,.slice (some ⟨w2.heap.size,0,none⟩) 1 1,.bool true,.slice none 0 0,.slice (some ⟨w3.heap.size,0,none⟩) 1 1,.bool true,.slice (some ⟨w4.heap.size,0,none⟩) 1 1,.bool true,.slice none 0 0]) (es:=([⟨(⟨[zg1 100],true⟩,some ⟨w1.heap.size,0,none⟩,1),(⟨[zg1 99],true⟩,some ⟨w2.heap.size,0,none⟩,1),.slice none 0 0,[]⟩,⟨(⟨[zg1 101],true⟩,some ⟨w3.heap.size,0,none⟩,1),(⟨[zg1 119],true⟩,some ⟨w4.heap.size,0,none⟩,1),.slice none 0 0,[]⟩]:List zd8)) HB4.out rfl rfl (by show 2≤1000;omega) (by
  intro x hx;simp only[List.mem_cons,List.not_mem_nil,or_false] at hx
  rcases hx with rfl | rfl
  ·exact⟨zgk (l:=[zg1 100]) HP1.out rfl (by decide) (by decide),zgk (l:=[zg1 99]) HP2.out rfl (by decide) (by decide),zgl _,Nat.zero_le _⟩
  ·exact⟨zgk (l:=[zg1 101]) HP3.out rfl (by decide) (by decide),zgk (l:=[zg1 119]) HP4.out rfl (by decide) (by decide),zgl _,Nat.zero_le _⟩)
 exact HQ.out _ _ _ _ _ _ _ _ _ _ _ _ _ _ _ _ (hd_ ⟨rfl,H.1,H.2⟩)
end
end Go.Proofs.YtegeboijhifmcaaGreatDoor
