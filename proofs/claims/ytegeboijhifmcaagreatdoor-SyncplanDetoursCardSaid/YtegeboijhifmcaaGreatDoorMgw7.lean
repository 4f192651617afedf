/- A part of the proof. -/
import Derived.Test.YtegeboijhifmcaaGreatDoorMgw3
import Derived.Test.YtegeboijhifmcaaGreatDoorMgw4
import Derived.Test.YtegeboijhifmcaaGreatDoorMgw6
import Derived.Test.YtegeboijhifmcaaGreatDoorCards
import Derived.Test.YtegeboijhifmcaaGreatDoorTie
import Derived.Shelf.SlSortCmp.KitK
import Derived.Lib.QuietBelow
import Derived.ProofKit
import Derived.OpenShut
import Derived.Deep.DeepHandedRow
import Derived.Lib.LaidTab
import Derived.Lib.SmallJoins
set_option linter.unusedVariables false
set_option linter.unusedSimpArgs false
set_option maxHeartbeats 4000000
set_option maxRecDepth 100000
namespace Go.Proofs.YtegeboijhifmcaaGreatDoor
open Go.Proofs.Tryz
open Go.RowKit
theorem z4p {w:World}{base base':Nat}{e:TypeId}{size n:Nat}{v:Value}{xs:List Value}(h:w.ownsRow base e size v n xs)(hb:base'≤base):w.ownsRow base' e size v n xs:=by
 obtain⟨h1,h2 | ⟨g,cap,cur,e1,h3,h4⟩⟩:=h
 ·exact⟨h1,.inl h2⟩
 ·exact⟨h1,.inr ⟨g,cap,cur,e1,Nat.le_trans hb h3,h4⟩⟩
theorem z4q {w w':World}{base:Nat}{e:TypeId}{size n:Nat}{v:Value}{xs:List Value}{row:Option Nat}(h:w.ownsRow base e size v n xs)(hg:w.grownBy w' row)(hne:∀ x,v.ownBlock=some x→row≠some x):w'.ownsRow base e size v n xs:=by
 obtain⟨h1,h2 | ⟨g,cap,cur,e1,h3,h4,h5⟩⟩:=h
 ·exact⟨h1,.inl h2⟩
 ·exact⟨h1,.inr ⟨g,cap,cur,e1,h3,by rw[hg.block g (Array.getElem?_eq_some_iff.1 h4).1 (fun e=>hne g (by rw[e1];rfl) e.symm)];exact h4,h5⟩⟩
theorem z4r {w:World}{base:Nat}{e:TypeId}{size n:Nat}{v:Value}{xs:List Value}(h:w.ownsRow base e size v n xs){p:Addr}(hne:v.ownBlock≠some p.block)(u:Value):(w.setCell p u).ownsRow base e size v n xs:=by
 obtain⟨h1,h2 | ⟨g,cap,cur,e1,h3,h4,h5⟩⟩:=h
 ·exact⟨h1,.inl h2⟩
 ·exact⟨h1,.inr ⟨g,cap,cur,e1,h3,by rw[Below.heap_setCell w p u g (fun e=>hne (by rw[e1,← e];rfl))];exact h4,h5⟩⟩
open Go.RowKit Go.Lib
open Go.Sort hiding Below
section
variable {P : Program} {α : Type} [Inhabited α] {enc : α → List Value} {k : Nat} {e : TypeId} {w0 W W' : World} {blk off C : Nat} {d : Array α}
structure SB (enc:α→List Value)(k:Nat)(e:TypeId)(w0:World)(blk off C:Nat)(d:Array α)(W:World):Prop where
 hold:HoldsK enc k W blk off d
 own:∃ cur:Array Value,W.heap[blk]? = some (.cells cur e (0,0))∧cur.size=C
 gr:w0.grownBy W (some blk)
theorem SB.lt (h:SB enc k e w0 blk off C d W):blk<W.heap.size:=by
 obtain⟨cur,h1,-⟩:=h.own;exact (Array.getElem?_eq_some_iff.1 h1).1
theorem SB.below (h:SB enc k e w0 blk off C d W)(hb:Go.RowKit.Below W.heap.size W W'):SB enc k e w0 blk off C d W':=by
 have hl:=h.lt;refine⟨fun j hj=>?_,?_,?_⟩
 ·obtain⟨h1,h2⟩:=h.hold j hj;exact⟨(hb.cell (p:=⟨blk,off+j,none⟩) hl).trans h1,(hb.frozen (p:=⟨blk,off+j,none⟩) hl).trans h2⟩
 ·rw[hb.block blk hl];exact h.own
 ·exact⟨hb.os.trans h.gr.os,hb.tape.trans h.gr.tape,hb.output.trans h.gr.output,Nat.le_trans h.gr.size hb.size,fun j hj hne=>(hb.block j (Nat.lt_of_lt_of_le hj h.gr.size)).trans (h.gr.block j hj hne)⟩
theorem SB.drew (h:SB enc k e w0 blk off C d W):SB enc k e w0 blk off C d W.drew:=h.below (Below.refl _ _).drew
end
theorem patE_0 {p:Pat}(h:p.parts.length=0):z7e p=30:=by unfold z7e;rw[if_pos (.inl h)]
theorem z9w {p:Pat}(h:p.parts.length=1)(hr:p.rest=false):z7e p=30:=by unfold z7e;rw[if_pos (.inr ⟨h,hr⟩)]
theorem z9x {p:Pat}(h:z7d p.parts=false):z7e p=30:=by
 unfold z7e;by_cases h1:p.parts.length=0∨(p.parts.length=1∧p.rest=false)
 ·rw[if_pos h1]
 ·rw[if_neg h1,if_pos h]
theorem z9y {p:Pat}(h1:¬(p.parts.length=0∨(p.parts.length=1∧p.rest=false)))(h:z7d p.parts=true):z7e p=if 12<p.parts.length then 31 else 0:=by
 unfold z7e;rw[if_neg h1,if_neg (by rw[h];simp)]
theorem z9z (s:ByteArray):z7b s=0∨z7b s=1∨z7b s=2:=by
 unfold z7b;split
 ·exact .inr (.inl rfl)
 ·split
  ·split
   ·exact .inr (.inr rfl)
   ·exact .inl rfl
  ·exact .inl rfl
theorem za0 (p:Pat)(A:Option Addr)(c:Nat)(w:World)(hS:Strs w (.slice A p.parts.length c) p.parts)(hz:∀ x∈p.parts,x.size≤maxLen):
  Calls prog 108 #[.agg #[.slice A p.parts.length c,.bool p.rest]] w fun e w'=>e=.returned (.int .i64 (z7e p))∧Below w.heap.size w w':=by
 obtain⟨A',c',e',hcc,hmm,-⟩:=id hS;injection e' with e1 e2 e3
 subst e1 e3;unfold maxLen at hmm;have HS:=hd_ hS;have HZ:=hd_ hz;have HF:=hd_ (fun x (hx:x.size≤maxLen) X=>z7l x X hx);obtain⟨parts,rest⟩:=p;dsimp only at hcc hmm HS HZ ⊢
 have HE0:=hd_ (@patE_0 ⟨parts,rest⟩);have HE1:=hd_ (@z9w ⟨parts,rest⟩);have HEF:=hd_ (@z9x ⟨parts,rest⟩);have HEE:=hd_ (@z9y ⟨parts,rest⟩);have hB:=z0l w [.slice A parts.length c,.bool rest] 97;have hA:Below w.heap.size w (w.alloc (.cells #[.slice A parts.length c,.bool rest] 97)):=(Below.refl _ _).alloc (Nat.le_refl _) _;clear hS hz e2;go_enter func108,ntmps108;go_upto_region 1 with fail;generalize w.alloc (.cells #[.slice A parts.length c,.bool rest] 97)=W1 at hB hA ⊢;have d0:W1.cell? ⟨w.heap.size,0,none⟩=some (.slice A parts.length c):=hB.cell 0;have d1:W1.cell? ⟨w.heap.size,1,none⟩=some (.bool rest):=hB.cell 1;have HB:=hd_ hB;have HA:=hd_ hA;clear hB hA;by_cases h0:parts.length=0
 ·have q0:((parts.length:Int) == 0)=true:=by rw[beq_iff_eq];omega
  have HR:=hd_ (HE0.out h0);clear h0;go_wp2_with fail;go_ret;exact⟨z7j HR.out.symm,HA.out⟩
 have q0:((parts.length:Int) == 0)=false:=by rw[beq_eq_false_iff_ne];omega
 have HN1:Hid (parts.length=1∧rest=false∨¬(parts.length=0∨(parts.length=1∧rest=false))):=hd_ (by
  by_cases h:parts.length=1∧rest=false
  ·exact .inl h
  ·exact .inr (fun hh=>by rcases hh with hh | hh;exact h0 hh;exact h hh))
 clear h0;rcases HN1.out with⟨h1,hr⟩ | hgood
 ·have q1:((parts.length:Int) == 1)=true:=by rw[beq_iff_eq];omega
  have HR:=hd_ (HE1.out h1 hr);subst hr;clear h1 HN1;go_wp2_with fail;go_ret;exact⟨z7j HR.out.symm,HA.out⟩
 have HG:=hd_ hgood;clear HN1 hgood;go_cut [19] (fun v wx=>v=.bool false∧wx=W1)
 case first =>
  by_cases h1:parts.length=1
  ·have q1:((parts.length:Int) == 1)=true:=by rw[beq_iff_eq];omega
   have hr:rest=true:=by
    cases rest with
    | true=>rfl
    | false=>exact absurd (.inr ⟨h1,rfl⟩) HG.out
   subst hr;clear h1;go_wp2_with fail;go_meet
   exact⟨rfl,rfl⟩
  ·have q1:((parts.length:Int) == 1)=false:=by rw[beq_eq_false_iff_ne];omega
   clear h1;go_wp2_with fail;go_meet
   exact⟨rfl,rfl⟩
 case rest =>
  obtain⟨rfl,rfl⟩:=hcut;clear q0;go_wp2_with fail;go_loop [23] (fun i=>∃ k:Nat,k≤parts.length∧i=.int .i64 k∧Hid (∀ j (hj:j<parts.length),j<k→z7c j parts[j]=true)) (fun i=>parts.length - (intOf i).toNat)
  case atStart=>exact⟨0,Nat.zero_le _,rfl,fun j _ a=>by omega⟩
  case round =>
   obtain⟨k,hk,rfl,HI⟩:=hrel;by_cases hlt:k<parts.length
   ·obtain⟨ad,rfl,hab,x0⟩:=Strs.at_ (HS.out.below HA.out) hlt;have HX:=hd_ (HF.out parts[k] (HZ.out _ (List.getElem_mem hlt)));have HNO:=hd_ (fun h=>HEF.out (z7f hlt h));have HYS:Hid (z7c k parts[k]=true→∀ j (hj:j<parts.length),j<k+1→z7c j parts[j]=true):=hd_ (fun h j hj a=>by
     by_cases e:j=k
     ·subst e;exact h
     ·exact HI.out j hj (by omega))
    have HPO:Hid (z7c k parts[k]=(decide (z7b parts[k]≠0) && !(decide (k=0) && decide (z7b parts[k]=2)))):=hd_ rfl;have hfc:=z9z parts[k];generalize parts[k]=x at x0 HX HNO HYS HPO hfc;generalize z7b x=f at HX HPO hfc;clear HI;rcases hfc with rfl | rfl | rfl
    ·have HR:=hd_ (HNO.out (by rw[HPO.out];rfl))
     go_wp2_with (go_at_call 161;refine (HX.out _).mono ?_;rintro e w' ⟨rfl,rfl⟩)
     go_ret;exact⟨z7j HR.out.symm,HA.out⟩
    ·have HR:=hd_ (HYS.out (by rw[HPO.out];simp))
     go_wp2_with (go_at_call 161;refine (HX.out _).mono ?_;rintro e w' ⟨rfl,rfl⟩)
     go_round
     case rel=>exact⟨k+1,by omega,by go_num,HR.out⟩
     case measure=>simp [intOf];omega
    ·by_cases hk0:k=0
     ·have HR:=hd_ (HNO.out (by rw[HPO.out,hk0];rfl))
      have qk:((k:Int) == 0)=true:=by rw[beq_iff_eq];omega
      have HK:=hd_ hk0;clear hk0;go_wp2_with (go_at_call 161;refine (HX.out _).mono ?_;rintro e w' ⟨rfl,rfl⟩)
      go_ret;exact⟨z7j HR.out.symm,HA.out⟩
     ·have HR:=hd_ (HYS.out (by rw[HPO.out];simp [hk0]))
      have qk:((k:Int) == 0)=false:=by rw[beq_eq_false_iff_ne];omega
      clear hk0;go_wp2_with (go_at_call 161;refine (HX.out _).mono ?_;rintro e w' ⟨rfl,rfl⟩)
      go_round
      case rel=>exact⟨k+1,by omega,by go_num,HR.out⟩
      case measure=>simp [intOf];omega
   ·have HR:=hd_ (HEE.out HG.out (z7g (fun j hj=>HI.out j hj (by omega))))
    have hge:¬((k:Int)<(parts.length:Int)):=by omega
    clear HI;by_cases h12:12<parts.length
    ·have q12:decide ((12:Int)<(parts.length:Int))=true:=by simp;omega
     rw[if_pos h12] at HR;clear h12;go_wp2_with fail;go_ret;exact⟨z7j HR.out.symm,HA.out⟩
    ·have q12:decide ((12:Int)<(parts.length:Int))=false:=by simp;omega
     rw[if_neg h12] at HR;clear h12;go_wp2_with fail;go_ret;exact⟨z7j HR.out.symm,HA.out⟩
def za1 (l:List ByteArray)(k:Nat):Nat:=((l.take k).filter z79).length
def za2 (p:Pat):Nat:=(p.parts.filter z79).length
theorem za3 {l:List ByteArray}{k:Nat}(h:k<l.length):za1 l (k+1)=za1 l k+if z79 l[k] then 1 else 0:=by
 unfold za1;rw[List.take_succ_eq_append_getElem h,List.filter_append,List.length_append];congr 1
 cases h:z79 l[k]
 ·rw[List.filter_cons_of_neg (by rw[h];decide)];rfl
 ·rw[List.filter_cons_of_pos h];rfl
theorem za4 {p:Pat}:za1 p.parts p.parts.length=za2 p:=by unfold za1 za2;rw[List.take_length]
theorem za5 {l:List ByteArray}:∀ k,za1 l k≤k:=fun k=>Nat.le_trans (List.length_filter_le ..) (List.length_take_le ..)
def za6 (w:World)(p:Pat)(e:Ending)(w':World):Prop:=∃ n:Int,∃ b:Bool,e=.returned (.tuple #[.int .i64 n,.bool b,.int .i64 (z7e p)])∧(z7e p=0→n=za2 p∧b=p.rest)∧Below w.heap.size w w'
theorem za7 (p:Pat)(A:Option Addr)(c:Nat)(w:World)(hS:Strs w (.slice A p.parts.length c) p.parts)(hz:∀ x∈p.parts,x.size≤maxLen):
  Calls prog 124 #[.agg #[.slice A p.parts.length c,.bool p.rest]] w (za6 w p):=by
 obtain⟨A',c',e',hcc,hmm,-⟩:=id hS;injection e' with e1 e2 e3
 subst e1 e3;unfold maxLen at hmm;have HS:=hd_ hS;have hB:=z0l w [.slice A p.parts.length c,.bool p.rest] 97;have hA:Below w.heap.size w (w.alloc (.cells #[.slice A p.parts.length c,.bool p.rest] 97)):=(Below.refl _ _).alloc (Nat.le_refl _) _;have HCK:=hd_ (fun X (hX:Below w.heap.size w X)=>za0 p A c X (hS.below hX) hz);clear hS hz e2;go_enter func124,ntmps124;go_upto_region 1 with fail;generalize w.alloc (.cells #[.slice A p.parts.length c,.bool p.rest] 97)=W1 at hB hA ⊢;have d0:W1.cell? ⟨w.heap.size,0,none⟩=some (.slice A p.parts.length c):=hB.cell 0;have d1:W1.cell? ⟨w.heap.size,1,none⟩=some (.bool p.rest):=hB.cell 1;have HC:=hd_ (HCK.out W1 hA);have HB:=hd_ hB;have HA:=hd_ hA;clear hB hA HCK;obtain⟨pe,hpe⟩:∃ pe,z7e p=pe:=⟨_,rfl⟩;have HPE:=hd_ hpe;rw[hpe] at HC;clear hpe;by_cases h0:pe=0
 case neg =>
  have q:(pe != 0)=true:=by simpa using h0
  have HR:Hid (z7e p≠0):=hd_ (by rw[HPE.out];exact h0)
  clear h0;go_wp2_with fail;refine HC.out.mono ?_;rintro e w2 ⟨rfl,hb⟩;have HB2:=hd_ (z0r HA.out hb);clear hb d0 d1;go_wp2_with fail;go_ret3
  exact⟨0,false,by rw[HPE.out];rfl,fun h=>absurd h HR.out,HB2.out⟩
 subst h0;go_wp2_with fail;refine HC.out.mono ?_;rintro e w2 ⟨rfl,hb⟩;have HB2:=hd_ (z0r HA.out hb);have hB2:=HB.out.below hb HB.out.lt;clear hb d0 d1;have d0:w2.cell? ⟨w.heap.size,0,none⟩=some (.slice A p.parts.length c):=hB2.cell 0;have d1:w2.cell? ⟨w.heap.size,1,none⟩=some (.bool p.rest):=hB2.cell 1;clear hB2 HC;go_wp2_with fail;go_loop [2,16] (fun s i=>∃ k:Nat,k≤p.parts.length∧i=.int .i64 k∧s=.int .i64 (za1 p.parts k)) (fun _ i=>p.parts.length - (intOf i).toNat)
 case atStart=>exact⟨0,Nat.zero_le _,rfl,rfl⟩
 case round =>
  obtain⟨k,hk,rfl,rfl⟩:=hrel;have hsl:=za5 (l:=p.parts) k;by_cases hlt:k<p.parts.length
  ·obtain⟨ad,rfl,hab,x0⟩:=Strs.at_ (HS.out.below HB2.out) hlt;have HT:=hd_ (fun X=>z7k p.parts[k] X);have HN:=hd_ (za3 hlt);generalize p.parts[k]=part at x0 HT HN;generalize z79 part=st at HT HN;generalize za1 p.parts k=m at HN hsl;clear hab;cases st with
   | false =>
    go_wp2_with (first
     | (go_at_call 110;refine (HT.out _).mono ?_;rintro e w' ⟨rfl,rfl⟩))
    go_round
    case rel=>exact⟨k+1,by omega,by go_num,by rw[HN.out];rfl⟩
    case measure=>simp [intOf];omega
   | true =>
    go_wp2_with (first
     | (go_at_call 110;refine (HT.out _).mono ?_;rintro e w' ⟨rfl,rfl⟩))
    go_round
    case rel=>exact⟨k+1,by omega,by go_num,by rw[HN.out];go_num⟩
    case measure=>simp [intOf];omega
  ·have hke:k=p.parts.length:=by omega
   subst hke;rw[za4];go_wp2_with fail;go_region_law (fail)
   go_wp2_with fail;go_ret3
   exact⟨_,_,by rw[HPE.out];rfl,fun _=>⟨rfl,rfl⟩,HB2.out.drew⟩
def za8 (l r:Pat):Int:=if z7e l≠0 then 40 else if z7e r≠0 then 41 else if za2 l≠za2 r∨l.rest≠r.rest then 42 else 0
def za9 (w:World)(v:Value)(p:Pat):Prop:=Strs w v p.parts∧∀ x∈p.parts,x.size≤1000000
theorem za9.below {w w':World}{v:Value}{p:Pat}(h:za9 w v p)(hb:Below w.heap.size w w'):za9 w' v p:=⟨Strs.below h.1 hb,h.2⟩
theorem za9.small {w:World}{v:Value}{p:Pat}(h:za9 w v p):∀ x∈p.parts,x.size≤maxLen:=fun x hx=>by have:=h.2 x hx;unfold maxLen;omega
theorem zaa (ex:Bool)(l r:Pat)(A B:Option Addr)(a b:Nat)(w:World)(hL:za9 w (.slice A l.parts.length a) l)(hR:za9 w (.slice B r.parts.length b) r):
  Calls prog 84 #[.agg #[.bool ex,.slice A l.parts.length a,.bool l.rest,.slice B r.parts.length b,.bool r.rest]] w fun e w'=>e=.returned (.int .i64 (za8 l r))∧Below w.heap.size w w':=by
 have hB:=z0l w [.bool ex,.slice A l.parts.length a,.bool l.rest,.slice B r.parts.length b,.bool r.rest] 119;have hA:Below w.heap.size w (w.alloc (.cells #[.bool ex,.slice A l.parts.length a,.bool l.rest,.slice B r.parts.length b,.bool r.rest] 119)):=(Below.refl _ _).alloc (Nat.le_refl _) _;have HKL:=hd_ (fun X (hX:Below w.heap.size w X)=>za7 l A a X (hL.below hX).1 hL.small);have HKR:=hd_ (fun X (hX:Below w.heap.size w X)=>za7 r B b X (hR.below hX).1 hR.small);have HE:Hid (za8 l r=if z7e l≠0 then 40 else if z7e r≠0 then 41 else if za2 l≠za2 r∨l.rest≠r.rest then 42 else 0):=hd_ rfl;clear hL hR;go_enter func84,ntmps84;go_upto_region 1 with fail;generalize w.alloc (.cells #[.bool ex,.slice A l.parts.length a,.bool l.rest,.slice B r.parts.length b,.bool r.rest] 119)=W1 at hB hA ⊢;have d1:W1.cell? ⟨w.heap.size,1,none⟩=some (.slice A l.parts.length a):=hB.cell 1;have d2:W1.cell? ⟨w.heap.size,2,none⟩=some (.bool l.rest):=hB.cell 2;have HC:=hd_ (HKL.out W1 hA);have HB:=hd_ hB;have HA:=hd_ hA;clear hB hA HKL;go_wp2_with fail;refine HC.out.mono ?_;rintro e w2 ⟨n1,b1,rfl,hk1,hb⟩;have HB2:=hd_ (z0r HA.out hb);have hB2:=HB.out.below hb HB.out.lt;clear hb d1 d2 HC HB;obtain⟨pe,hpe⟩:∃ pe,z7e l=pe:=⟨_,rfl⟩;rw[hpe] at hk1 HE ⊢;clear hpe;by_cases h0:pe=0
 case neg =>
  have q:(pe != 0)=true:=by simpa using h0
  have HR:Hid (za8 l r=40):=hd_ (by rw[HE.out,if_pos h0])
  clear h0 hB2 HE hk1;go_wp2_with fail;go_ret;exact⟨z7j HR.out.symm,HB2.out⟩
 subst h0;obtain⟨rfl,rfl⟩:=hk1 rfl;have d3:w2.cell? ⟨w.heap.size,3,none⟩=some (.slice B r.parts.length b):=hB2.cell 3;have d4:w2.cell? ⟨w.heap.size,4,none⟩=some (.bool r.rest):=hB2.cell 4;have HC:=hd_ (HKR.out w2 HB2.out);clear hB2 HKR hk1;go_wp2_with fail;refine HC.out.mono ?_;rintro e w3 ⟨n2,b2,rfl,hk2,hb⟩;have HB3:=hd_ (z0r HB2.out hb);clear hb d3 d4 HC;obtain⟨pe,hpe⟩:∃ pe,z7e r=pe:=⟨_,rfl⟩;rw[hpe] at hk2 HE ⊢;clear hpe;by_cases h0:pe=0
 case neg =>
  have q:(pe != 0)=true:=by simpa using h0
  have HR:Hid (za8 l r=41):=hd_ (by rw[HE.out,if_neg (by decide),if_pos h0])
  clear h0 HE hk2;go_wp2_with fail;go_ret;exact⟨z7j HR.out.symm,HB3.out⟩
 subst h0;obtain⟨rfl,rfl⟩:=hk2 rfl;rw[if_neg (by decide),if_neg (by decide)] at HE
 clear hk2;by_cases h1:za2 l=za2 r
 ·have q1:((za2 l:Int) != (za2 r:Int))=false:=by rw[h1];simp
  rcases Bool.eq_false_or_eq_true l.rest with h2 | h2 <;> rcases Bool.eq_false_or_eq_true r.rest with h3 | h3 <;> (
   have HR:Hid (za8 l r=0∧l.rest=r.rest∨za8 l r=42∧l.rest≠r.rest):=hd_ (by
    by_cases h:l.rest=r.rest
    ·exact .inl ⟨by rw[HE.out,if_neg (by rintro (h4 | h4);exact h4 h1;exact h4 h)],h⟩
    ·exact .inr ⟨by rw[HE.out,if_pos (.inr h)],h⟩)
   rw[h2,h3] at HR ⊢;clear h1 h2 h3 HE;go_wp2_with fail;go_ret;rcases HR.out with⟨h4,h5⟩ | ⟨h4,h5⟩
   ·first
     | exact⟨z7j h4.symm,HB3.out⟩
     | cases h5
   ·first
     | exact⟨z7j h4.symm,HB3.out⟩
     | exact absurd rfl h5)
 ·have q1:((za2 l:Int) != (za2 r:Int))=true:=by simp;omega
  have HR:Hid (za8 l r=42):=hd_ (by rw[HE.out,if_pos (.inl h1)])
  clear h1 HE;go_wp2_with fail;go_ret;exact⟨z7j HR.out.symm,HB3.out⟩
theorem zdy (f:ByteArray→Option Rev)(p:ByteArray):z2w f p=((f p).isSome && z2v (z2x f p).act):=by
 unfold z2w z2x;cases f p <;> rfl
theorem zdz {w:World}{g:Nat}{e:TypeId}{a0 a1 a2 a3 a4 a5 a6 a7 a8 a9 a10 a11:Value}(h:Blk w g e [a0,a1,a2,a3,a4,a5,a6,a7,a8,a9,a10,a11]):
  w.frozen? ⟨g,0,none⟩=false∧w.frozen? ⟨g,1,none⟩=false∧w.frozen? ⟨g,2,none⟩=false∧w.frozen? ⟨g,3,none⟩=false∧w.frozen? ⟨g,4,none⟩=false∧w.frozen? ⟨g,5,none⟩=false ∧
  w.frozen? ⟨g,6,none⟩=false∧w.frozen? ⟨g,7,none⟩=false∧w.frozen? ⟨g,8,none⟩=false∧w.frozen? ⟨g,9,none⟩=false∧w.frozen? ⟨g,10,none⟩=false∧w.frozen? ⟨g,11,none⟩=false:=
 ⟨h.frozen 0,h.frozen 1,h.frozen 2,h.frozen 3,h.frozen 4,h.frozen 5,h.frozen 6,h.frozen 7,h.frozen 8,h.frozen 9,h.frozen 10,h.frozen 11⟩
theorem ze0 {w:World}{g:Nat}{e:TypeId}{a0 a1 a2 a3 a4 a5 a6 a7 a8 a9 a10 a11:Value}(h:Blk w g e [a0,a1,a2,a3,a4,a5,a6,a7,a8,a9,a10,a11])(r:Rev):
  Blk ((((((((((((w.setCell ⟨g,0,none⟩ (.string r.path)).setCell ⟨g,1,none⟩ (.int .i64 r.num)).setCell ⟨g,2,none⟩ (.int .i64 r.chg)).setCell ⟨g,3,none⟩ (.int .i64 r.act)).setCell ⟨g,4,none⟩ (.int .i64 r.ty.base)).setCell ⟨g,5,none⟩ (.bool r.ty.k)).setCell ⟨g,6,none⟩ (.bool r.ty.l)).setCell ⟨g,7,none⟩ (.bool r.ty.x)).setCell ⟨g,8,none⟩ (.int .u64 r.sum)).setCell ⟨g,9,none⟩ (.int .i64 r.size)).setCell ⟨g,10,none⟩ (.string r.frm)).setCell ⟨g,11,none⟩ (.int .i64 r.fnum)) g e [.string r.path,.int .i64 r.num,.int .i64 r.chg,.int .i64 r.act,.int .i64 r.ty.base,.bool r.ty.k,.bool r.ty.l,.bool r.ty.x,.int .u64 r.sum,.int .i64 r.size,.string r.frm,.int .i64 r.fnum]:=
 ((((((((((((h.set_ 0 _).set_ 1 _).set_ 2 _).set_ 3 _).set_ 4 _).set_ 5 _).set_ 6 _).set_ 7 _).set_ 8 _).set_ 9 _).set_ 10 _).set_ 11 _)
theorem ze1 {B:Nat}{w0 w:World}{g:Nat}(h:Below B w0 w)(hg:B≤g)(r:Rev):Below B w0 ((((((((((((w.setCell ⟨g,0,none⟩ (.string r.path)).setCell ⟨g,1,none⟩ (.int .i64 r.num)).setCell ⟨g,2,none⟩ (.int .i64 r.chg)).setCell ⟨g,3,none⟩ (.int .i64 r.act)).setCell ⟨g,4,none⟩ (.int .i64 r.ty.base)).setCell ⟨g,5,none⟩ (.bool r.ty.k)).setCell ⟨g,6,none⟩ (.bool r.ty.l)).setCell ⟨g,7,none⟩ (.bool r.ty.x)).setCell ⟨g,8,none⟩ (.int .u64 r.sum)).setCell ⟨g,9,none⟩ (.int .i64 r.size)).setCell ⟨g,10,none⟩ (.string r.frm)).setCell ⟨g,11,none⟩ (.int .i64 r.fnum)):=
 ((((((((((((h.setCell hg _).setCell hg _).setCell hg _).setCell hg _).setCell hg _).setCell hg _).setCell hg _).setCell hg _).setCell hg _).setCell hg _).setCell hg _).setCell hg _)
theorem ze2 (f:ByteArray→Option Rev)(p:ByteArray)(g:Nat)(dv dr ev rv:Value)(n:Int)(cl tx:ByteArray)(bl be bn:Nat)(w:World)(hk:Chk w g dv dr n cl tx ev rv bl be bn)(hL:z7r w bl f):
  Calls prog 204 #[.pointer (some ⟨g,0,none⟩),.string p] w
   fun e w'=>e=.returned (.tuple #[.agg #[.string (z2x f p).path,.int .i64 (z2x f p).num,.int .i64 (z2x f p).chg,.int .i64 (z2x f p).act,.int .i64 (z2x f p).ty.base,.bool (z2x f p).ty.k,.bool (z2x f p).ty.l,.bool (z2x f p).ty.x,.int .u64 (z2x f p).sum,.int .i64 (z2x f p).size,.string (z2x f p).frm,.int .i64 (z2x f p).fnum],.bool (z2w f p)])∧Below w.heap.size w w':=by
 have hbW:Below w.heap.size w (w.alloc (.cells #[.string ⟨#[]⟩,.int .i64 0,.int .i64 0,.int .i64 0,.int .i64 0,.bool false,.bool false,.bool false,.int .u64 0,.int .i64 0,.string ⟨#[]⟩,.int .i64 0] 66)):=(Below.refl _ _).alloc (Nat.le_refl _) _;have hK:Chk (w.alloc (.cells #[.string ⟨#[]⟩,.int .i64 0,.int .i64 0,.int .i64 0,.int .i64 0,.bool false,.bool false,.bool false,.int .u64 0,.int .i64 0,.string ⟨#[]⟩,.int .i64 0] 66)) g dv dr n cl tx ev rv bl be bn:=Blk.below hk hbW (Blk.lt hk);have hlk:=z7r.look2 (w:=w.alloc (.cells #[.string ⟨#[]⟩,.int .i64 0,.int .i64 0,.int .i64 0,.int .i64 0,.bool false,.bool false,.bool false,.int .u64 0,.int .i64 0,.string ⟨#[]⟩,.int .i64 0] 66)) (z2f.below hL hbW) p;obtain⟨-,-,-,-,-,k7,-,-⟩:=z4a hK;clear hK;have HL:=hd_ (zdy f p);have hgl:=Blk.lt hk;generalize z2x f p=r at hlk HL ⊢;generalize (f p).isSome=b at hlk HL;obtain⟨W,hW⟩:∃ W,W=(w.alloc (.cells #[.string ⟨#[]⟩,.int .i64 0,.int .i64 0,.int .i64 0,.int .i64 0,.bool false,.bool false,.bool false,.int .u64 0,.int .i64 0,.string ⟨#[]⟩,.int .i64 0] 66)).alloc (.cells #[.string r.path,.int .i64 r.num,.int .i64 r.chg,.int .i64 r.act,.int .i64 r.ty.base,.bool r.ty.k,.bool r.ty.l,.bool r.ty.x,.int .u64 r.sum,.int .i64 r.size,.string r.frm,.int .i64 r.fnum] 66):=⟨_,rfl⟩;have hbW2:Below w.heap.size w W:=by rw[hW];exact hbW.alloc hbW.size _
 have hZ:Blk W w.heap.size 66 [.string ⟨#[]⟩,.int .i64 0,.int .i64 0,.int .i64 0,.int .i64 0,.bool false,.bool false,.bool false,.int .u64 0,.int .i64 0,.string ⟨#[]⟩,.int .i64 0]:=by rw[hW];exact (z0l w _ _).alloc _
 have hR:Blk W (w.heap.size+1) 66 [.string r.path,.int .i64 r.num,.int .i64 r.chg,.int .i64 r.act,.int .i64 r.ty.base,.bool r.ty.k,.bool r.ty.l,.bool r.ty.x,.int .u64 r.sum,.int .i64 r.size,.string r.frm,.int .i64 r.fnum]:=by
  rw[hW];have:=z0l (w.alloc (.cells #[.string ⟨#[]⟩,.int .i64 0,.int .i64 0,.int .i64 0,.int .i64 0,.bool false,.bool false,.bool false,.int .u64 0,.int .i64 0,.string ⟨#[]⟩,.int .i64 0] 66)) [.string r.path,.int .i64 r.num,.int .i64 r.chg,.int .i64 r.act,.int .i64 r.ty.base,.bool r.ty.k,.bool r.ty.l,.bool r.ty.x,.int .u64 r.sum,.int .i64 r.size,.string r.frm,.int .i64 r.fnum] 66;simpa using this
 have HW:=hd_ hW;clear hW;obtain⟨c0,c1,c2,c3,c4,c5,c6,c7,c8,c9,c10,c11⟩:=z7z hR;obtain⟨z0,z1,z2,z3,z4,z5,z6,z7,z8,z9,z10,z11⟩:=z7z hZ;obtain⟨y0,y1,y2,y3,y4,y5,y6,y7,y8,y9,y10,y11⟩:=zdz hZ;cases b
 ·go_enter func204,ntmps204;go_wp2_with fail;rw[← HW.out];clear hlk k7 hbW;go_region
  have hZ2:=ze0 hZ r;have hB2:=ze1 hbW2 (Nat.le_refl w.heap.size) r;generalize ((((((((((((W.setCell ⟨w.heap.size,0,none⟩ (.string r.path)).setCell ⟨w.heap.size,1,none⟩ (.int .i64 r.num)).setCell ⟨w.heap.size,2,none⟩ (.int .i64 r.chg)).setCell ⟨w.heap.size,3,none⟩ (.int .i64 r.act)).setCell ⟨w.heap.size,4,none⟩ (.int .i64 r.ty.base)).setCell ⟨w.heap.size,5,none⟩ (.bool r.ty.k)).setCell ⟨w.heap.size,6,none⟩ (.bool r.ty.l)).setCell ⟨w.heap.size,7,none⟩ (.bool r.ty.x)).setCell ⟨w.heap.size,8,none⟩ (.int .u64 r.sum)).setCell ⟨w.heap.size,9,none⟩ (.int .i64 r.size)).setCell ⟨w.heap.size,10,none⟩ (.string r.frm)).setCell ⟨w.heap.size,11,none⟩ (.int .i64 r.fnum))=W3 at hZ2 hB2 ⊢;go_wp2_with fail;obtain⟨e0,e1,e2,e3,e4,e5,e6,e7,e8,e9,e10,e11⟩:=z7z hZ2;refine bodyPost_ret (v:=.tuple #[.agg #[.string r.path,.int .i64 r.num,.int .i64 r.chg,.int .i64 r.act,.int .i64 r.ty.base,.bool r.ty.k,.bool r.ty.l,.bool r.ty.x,.int .u64 r.sum,.int .i64 r.size,.string r.frm,.int .i64 r.fnum],.bool false]) (by simp [results,results204,go_sem,e0,e1,e2,e3,e4,e5,e6,e7,e8,e9,e10,e11]) rfl ⟨?_,hB2.drew⟩
  rw[HL.out];rfl
 ·go_enter func204,ntmps204;go_wp2_with fail;rw[← HW.out];clear hlk k7 hbW;go_region_with (go_at_call 206;refine (z3f _ _).mono ?_;rintro e w' ⟨rfl,rfl⟩)
  all_goals
   have hZ2:=ze0 hZ r;have hB2:=ze1 hbW2 (Nat.le_refl w.heap.size) r;generalize ((((((((((((W.setCell ⟨w.heap.size,0,none⟩ (.string r.path)).setCell ⟨w.heap.size,1,none⟩ (.int .i64 r.num)).setCell ⟨w.heap.size,2,none⟩ (.int .i64 r.chg)).setCell ⟨w.heap.size,3,none⟩ (.int .i64 r.act)).setCell ⟨w.heap.size,4,none⟩ (.int .i64 r.ty.base)).setCell ⟨w.heap.size,5,none⟩ (.bool r.ty.k)).setCell ⟨w.heap.size,6,none⟩ (.bool r.ty.l)).setCell ⟨w.heap.size,7,none⟩ (.bool r.ty.x)).setCell ⟨w.heap.size,8,none⟩ (.int .u64 r.sum)).setCell ⟨w.heap.size,9,none⟩ (.int .i64 r.size)).setCell ⟨w.heap.size,10,none⟩ (.string r.frm)).setCell ⟨w.heap.size,11,none⟩ (.int .i64 r.fnum))=W3 at hZ2 hB2 ⊢;go_wp2_with fail;obtain⟨e0,e1,e2,e3,e4,e5,e6,e7,e8,e9,e10,e11⟩:=z7z hZ2;refine bodyPost_ret (v:=.tuple #[.agg #[.string r.path,.int .i64 r.num,.int .i64 r.chg,.int .i64 r.act,.int .i64 r.ty.base,.bool r.ty.k,.bool r.ty.l,.bool r.ty.x,.int .u64 r.sum,.int .i64 r.size,.string r.frm,.int .i64 r.fnum],.bool (z2v r.act)]) (by simp [results,results204,go_sem,e0,e1,e2,e3,e4,e5,e6,e7,e8,e9,e10,e11]) rfl ⟨?_,hB2.drew⟩
   rw[HL.out];rfl
def Under (n k:Int):Prop:=0≤k∧(1<n→k<n)∧(n≤1→k=0)
theorem zgd (x n:Int)(h:1<n):-n<x.tmod n∧x.tmod n<n:=by
 have h1:=Int.tmod_lt_of_pos x (b:=n) (by omega)
 have h2:=Int.lt_tmod_of_pos x (b:=n) (by omega)
 exact⟨by omega,h1⟩
theorem zge (v n:Int)(w:World)(hn:n≤1000000000):Calls prog 48 #[.int .i64 v,.int .i64 n] w fun e w'=>∃ k,e=.returned (.int .i64 k)∧Under n k∧w=w':=by
 by_cases h1:n≤1
 ·have q:decide (n≤1)=true:=decide_eq_true h1;go_enter func48,ntmps48;go_wp2_with fail;go_ret;exact⟨0,rfl,⟨by omega,fun h=>by omega,fun _=>rfl⟩,rfl⟩
 ·have q:decide (n≤1)=false:=decide_eq_false h1;have q0:(n == 0)=false:=by rw[beq_eq_false_iff_ne];omega
  have q1:(n == -1)=false:=by rw[beq_eq_false_iff_ne];omega
  obtain⟨a1,a2⟩:=zgd v n (by omega)
  obtain⟨r,hr⟩:∃ r,v.tmod n=r:=⟨_,rfl⟩;rw[hr] at a1 a2;have hw:IntKind.i64.wrap r=r:=by rw[IntKind.wrap_i64];omega
  by_cases h2:r<0
  ·have q2:decide (r<0)=true:=decide_eq_true h2;have hw2:IntKind.i64.wrap (r+n)=r+n:=by rw[IntKind.wrap_i64];omega
   go_enter func48,ntmps48;go_wp2_with fail;go_ret;exact⟨_,rfl,⟨by omega,fun _=>by omega,fun h=>by omega⟩,rfl⟩
  ·have q2:decide (r<0)=false:=decide_eq_false h2;go_enter func48,ntmps48;go_wp2_with fail;go_ret;exact⟨_,rfl,⟨by omega,fun _=>by omega,fun h=>by omega⟩,rfl⟩
end Go.Proofs.YtegeboijhifmcaaGreatDoor
/- The world of the witness: the listed tables hold what their initialisers lay. -/
namespace Go.Proofs.YtegeboijhifmcaaGreatDoor.cardBase
open Go.Proofs.Tryz
open Go.ChangeShapes Go.WideShapes Go.ChangeAt Go.RowKit
theorem own:ownKnob prog.godebug=none:=by kernel_rfl
theorem laidOut:laidOutB prog=true:=by kernel_rfl
def lay0:Obj→Obj
 | .cells _ t frozen=>.cells #[.int .u8 128,.int .u8 191,.int .u8 160,.int .u8 191,.int .u8 128,.int .u8 159,.int .u8 144,.int .u8 191,.int .u8 128,.int .u8 143,.int .u8 0,.int .u8 0,.int .u8 0,.int .u8 0,.int .u8 0,.int .u8 0,.int .u8 0,.int .u8 0,.int .u8 0,.int .u8 0,.int .u8 0,.int .u8 0,.int .u8 0,.int .u8 0,.int .u8 0,.int .u8 0,.int .u8 0,.int .u8 0,.int .u8 0,.int .u8 0,.int .u8 0,.int .u8 0] t frozen
 | o=>o
def lay1:Obj→Obj
 | .cells _ t frozen=>.cells (Go.Pinned.utf8FirstZ.map fun(n:Nat)=>Value.int .u8 (n:Int)).toArray t frozen
 | o=>o
noncomputable def laidWorld (os:Os):World:=
 { World.holding prog os ⟨#[],#[],[]⟩ with heap:=(((World.holding prog os ⟨#[],#[],[]⟩).heap.modify 2 lay0).modify 1 lay1) }
end Go.Proofs.YtegeboijhifmcaaGreatDoor.cardBase
