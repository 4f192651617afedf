/- A part of the proof. -/
import Derived.Test.YtegeboijhifmcaaGreatDoorMgs12
set_option linter.unusedVariables false
set_option linter.unusedSimpArgs false
set_option maxHeartbeats 8000000
set_option maxRecDepth 100000
namespace Go.Proofs.YtegeboijhifmcaaGreatDoor
open Go.Proofs.Tryz
open Go.RowKit Go.Lib
open Go.Sort hiding Below
abbrev zaq:={ s:ByteArray // z2s s=true∧s.size≤1000000 }
instance:Inhabited zaq:=⟨⟨z5t,z5u,by unfold z5t;decide⟩⟩
def zaq.enc (x:zaq):Value:=.string x.1
def zaq.cmp (x y:zaq):Int:=z2u x.1 y.1
theorem zar:z5p zaq.cmp:=totP (f:=fun r:zaq=>r.1) fun r=>r.2.1
theorem zas (blk off size:Nat)(w:World):CmpReads prog 45 #[] zaq.enc zaq.cmp blk off size w:=
 fun m os dk _ x y=>(z41 x.1 y.1 (sortWorld zaq.enc w blk off m dk os) (by have:=x.2.2;omega) (by have:=y.2.2;omega)).mono fun e w' h=>h
theorem zat:∀ {l:List ByteArray},(∀ r∈l,z2s r=true∧r.size≤1000000)→∃ l':List zaq,l'.map (·.1)=l
 | [],_=>⟨[],rfl⟩
 | r :: l,h=>by
  obtain⟨l',rfl⟩:=zat fun x hx=>h x (List.mem_cons_of_mem _ hx);exact⟨⟨r,h r (List.mem_cons_self ..)⟩ :: l',rfl⟩
theorem zau (A:Option Addr)(c:Nat)(w:World):Calls prog 150 #[.slice A 0 c,.int .i64 0,.int .i64 0,.func (.func 45) #[] #[]] w fun e w'=>e=.returned (.tuple #[])∧w=w':=by
 go_enter func150,ntmps150;go_wp2
 refine wp_loop_rounds 1 ?_;rw[rounds_succ];go_wp2
 go_end0
 exact⟨rfl,rfl⟩
def SrEnd (w:World)(v:Value)(l:List ByteArray)(w':World):Prop:=∃ l':List ByteArray,l'.Perm l∧l'.Pairwise (fun a b=>¬ z2u b a<0)∧Row w' 1 v l.length (l'.map .string)∧w.grownBy w' v.ownBlock
def SrPost (w:World)(base:Nat)(v:Value)(l:List ByteArray)(e:Ending)(w':World):Prop:=
 e=.returned (.tuple #[])∧SrEnd w v l w'
theorem zav (l:List zaq)(v:Value)(base:Nat)(lim:Int)(w:World)(hown:w.ownsRow base 9 1 v l.length (l.map zaq.enc))(hl:l.length≤12)(h0:0<l.length):
  Calls prog 104 #[v,.int .i64 0,.int .i64 l.length,.int .i64 lim,.func (.func 45) #[] #[]] w (SrPost w base v (l.map (·.1))):=by
 obtain⟨g,cap,rfl⟩:=z0s hown h0;have hHold:Holds zaq.enc w g 0 l.toArray:=fun j hj=>by
  have hj':j<l.length:=by simpa using hj
  have h1:=zac hown (j:=j) (u:=zaq.enc l[j]) (by rw[List.getElem?_map,List.getElem?_eq_getElem hj'];rfl)
  rw[Nat.zero_add,getElem!_pos l.toArray j hj];exact⟨h1.1,h1.2.1⟩
 have H:=hd_ (Tryz.insertionSortCmpFunc_one zaq.enc (fun _=>rfl) zaq.cmp 45 #[] g 0 cap 0 l.length l.toArray w (fun args w=>by kernel_rfl) (zas g 0 _ w) hHold (Nat.zero_le _) (by simp) (by simp;omega))
 have HH:=hd_ hHold;have HO:=hd_ hown;have hs0:l.toArray.size=l.length:=by simp
 rw[hs0,show ((0:Nat):Int)=0 from rfl] at H;have hle:decide ((l.length:Int)≤12)=true:=by simp;omega
 have hle':decide (l.length≤12)=true:=by simp;omega
 clear hown hHold hs0;go_enter func104,ntmps104;go_wp2_with fail;go_loop [1,2] (fun a b=>a=.int .i64 0∧b=.int .i64 l.length) (fun _ _=>1)
 case atStart=>exact⟨rfl,rfl⟩
 case round =>
  obtain⟨rfl,rfl⟩:=hrel;go_wp2_with fail;refine H.out.mono ?_;rintro e w' ⟨rfl,n,rfl⟩;go_wp2_with fail;go_end0
  have hs0:l.toArray.size=l.length:=by simp
  obtain⟨k1,k2⟩:=Go.Sort.insertionSort_holds zar.swo l.toArray 0 l.length (Nat.zero_le _) (by rw[hs0];exact Nat.le_refl _)
  have hHn:=holds_putRow zaq.enc w g 0 l.toArray (Sort.insertionSort (ltOf zaq.cmp) l.toArray 0 l.length) HH.out k1.1;have hgrow:w.grownBy ((putRow zaq.enc w g 0 (Sort.insertionSort (ltOf zaq.cmp) l.toArray 0 l.length)).drewN n) (some g):=by
   refine⟨rfl,rfl,rfl,by show w.heap.size≤(putRow zaq.enc w g 0 _).heap.size;rw[size_putRow];exact Nat.le_refl _,fun k hk hne=>?_⟩
   show (w.heap.modify g _)[k]? = w.heap[k]?
   rw[Array.getElem?_modify,if_neg (fun e=>hne (by rw[e]))]
  have hlt:g<w.heap.size:=(HO.out.lt g rfl).2;generalize hd:Sort.insertionSort (ltOf zaq.cmp) l.toArray 0 l.length=d' at k1 k2 hHn hgrow;have hs:d'.size=l.length:=by rw[k1.1,hs0]
  refine⟨rfl,(d'.toList).map (·.1),?_,?_,?_,hgrow⟩
  ·refine List.Perm.map _ ?_;have:=k1.2.2;rw[← hs,Array.extract_size,hs,← hs0,Array.extract_size] at this;simpa using this
  ·rw[List.pairwise_map,List.pairwise_iff_getElem];intro i j hi hj hij;have hi':i<d'.size:=by simpa using hi
   have hj':j<d'.size:=by simpa using hj
   have:=k2 i j (Nat.zero_le _) hij (by omega)
   rw[getElem!_pos d' j hj',getElem!_pos d' i hi'] at this;have h3:=of_decide_eq_false (show decide (z2u d'[j].1 d'[i].1<0)=false from this);simpa using h3
  ·rw[List.length_map];obtain⟨A',c',e,h1,h2,-⟩:=Row.of_own HO.out;injection e with e1 e2 e3
   subst e3;refine⟨_,_,rfl,h1,h2,by simp [hs],fun h=>(by cases h),fun _=>⟨_,rfl,Nat.lt_of_lt_of_le hlt hgrow.size,fun j u hu=>?_⟩⟩
   have hadd:(⟨g,0,none⟩:Addr).add j=⟨g,j,none⟩:=by unfold Addr.add;split <;> simp_all
   rw[hadd];rw[List.map_map,List.getElem?_map,Option.map_eq_some_iff] at hu;obtain⟨x,hx,rfl⟩:=hu;rw[List.getElem?_eq_some_iff] at hx;obtain⟨hj,hx⟩:=hx;have hj':j<d'.size:=by simpa using hj
   have:=(hHn j hj').1;rw[Nat.zero_add,getElem!_pos d' j hj'] at this;have hx':d'[j]=x:=by simpa using hx
   rw[hx'] at this;exact this
theorem zaw (A:Option Addr)(c:Nat)(lim:Int)(w:World):
  Calls prog 104 #[.slice A 0 c,.int .i64 0,.int .i64 0,.int .i64 lim,.func (.func 45) #[] #[]] w fun e w'=>e=.returned (.tuple #[])∧w=w':=by
 have H:=hd_ (zau A c w);go_enter func104,ntmps104;go_wp2_with fail;go_loop [1,2] (fun a b=>a=.int .i64 0∧b=.int .i64 0) (fun _ _=>1)
 case atStart=>exact⟨rfl,rfl⟩
 case round =>
  obtain⟨rfl,rfl⟩:=hrel;go_wp2_with fail;refine H.out.mono ?_;rintro e w' ⟨rfl,rfl⟩;go_wp2_with fail;exact bodyPost_ret (v:=.tuple #[]) (by simp [results,results104,go_sem]) rfl ⟨rfl,rfl⟩
theorem zax (l:List ByteArray)(v:Value)(base:Nat)(w:World)(hown:w.ownsRow base 9 1 v l.length (l.map .string))(hl:l.length≤12)(hv:∀ x∈l,z2s x=true∧x.size≤1000000):
  Calls prog 68 #[v,.func (.func 45) #[] #[]] w (SrPost w base v l):=by
 obtain⟨A,c,rfl⟩:=z0o hown;have HL:=hd_ (Tryz.bits_Len (l.length:Int) w (by omega) (by omega))
 have hw:IntKind.u64.wrap (l.length:Int)=(l.length:Int):=by simp [IntKind.wrap,IntKind.bits,IntKind.signed];omega
 by_cases h0:l.length=0
 ·have hl0:l=[]:=List.eq_nil_of_length_eq_zero h0;subst hl0;have H:=hd_ (fun lim=>zaw A c lim w);have HO:=hd_ hown;clear hown hv;go_enter func68,ntmps68;go_wp2_with fail;refine HL.out.mono ?_;rintro e w' ⟨rfl,rfl⟩;go_wp2_with fail;refine (H.out _).mono ?_;rintro e w' ⟨rfl,rfl⟩;go_wp2_with fail;go_end0
  exact⟨rfl,[],List.Perm.refl _,List.Pairwise.nil,Row.of_own HO.out,⟨rfl,rfl,rfl,Nat.le_refl _,fun _ _ _=>rfl⟩⟩
 ·obtain⟨l',rfl⟩:=zat hv;rw[List.length_map] at h0 hl hw HL;have H:=hd_ (fun lim=>zav l' (.slice A (l'.map (·.1)).length c) base lim w (by rw[List.map_map] at hown;rw[List.length_map] at hown ⊢;exact hown) hl (by omega))
  rw[List.length_map] at H ⊢;clear hown hv;go_enter func68,ntmps68;go_wp2_with fail;refine HL.out.mono ?_;rintro e w' ⟨rfl,rfl⟩;go_wp2_with fail;refine (H.out _).mono ?_;rintro e w' ⟨rfl,h1⟩;have H1:=hd_ h1;clear h1;go_wp2_with fail;go_end0
  exact⟨rfl,H1.out⟩
open Go.RowKit
theorem zc6 {j:Nat}{x:ByteArray}(hj:0<j):z7c j x=z95 x:=by
 unfold z7c;rw[z9c,decide_eq_false (by omega:¬ j=0)]
 simp
theorem zc7 {p:Pat}(h:0<p.parts.length)(hc:z0v p.parts[0]=false):z7e p=30:=by
 by_cases h1:p.parts.length=1∧p.rest=false
 ·exact z9w h1.1 h1.2
 ·exact z9x (z7f h (by rw[z9d,hc]))
theorem zc8 {p:Pat}{j:Nat}(hj:j+1<p.parts.length)(hc:z95 p.parts[j+1]=false):z7e p=30:=z9x (z7f hj (by rw[zc6 (by omega),hc]))
theorem zc9 {p:Pat}(h1:¬(p.parts.length=0∨(p.parts.length=1∧p.rest=false)))(h0:∀ h:0<p.parts.length,z0v p.parts[0]=true)(h:∀ j (hj:j+1<p.parts.length),z95 p.parts[j+1]=true):z7e p=if 12<p.parts.length then 31 else 0:=by
 refine z9y h1 (z7g fun j hj=>?_);cases j with
 | zero=>rw[z9d];exact h0 hj
 | succ j=>rw[zc6 (by omega)];exact h j hj
theorem zca (p:Pat)(A:Option Addr)(c:Nat)(w:World)(hS:Strs w (.slice A p.parts.length c) p.parts)(hz:∀ x∈p.parts,x.size≤maxLen):
  Calls prog 181 #[.agg #[.slice A p.parts.length c,.bool p.rest]] w fun e w'=>e=.returned (.int .i64 (z7e p))∧Below w.heap.size w w':=by
 obtain⟨A',c',e',hcc,hmm,-⟩:=id hS;injection e' with e1 e2 e3
 subst e1 e3;unfold maxLen at hmm;have HS:=hd_ hS;have HZ:=hd_ hz;have HCO:=hd_ (fun x (hx:x.size≤maxLen) X=>z8s x X hx);have HPA:=hd_ (fun x (hx:x.size≤maxLen) X=>z9o x X hx);obtain⟨parts,rest⟩:=p;dsimp only at hcc hmm HS HZ ⊢
 have HE0:=hd_ (@patE_0 ⟨parts,rest⟩);have HE1:=hd_ (@z9w ⟨parts,rest⟩);have HEC:=hd_ (@zc7 ⟨parts,rest⟩);have HEP:=hd_ (fun j hj hc=>@zc8 ⟨parts,rest⟩ j hj hc);have HEE:=hd_ (@zc9 ⟨parts,rest⟩);have hB:=z0l w [.slice A parts.length c,.bool rest] 97;have hA:Below w.heap.size w (w.alloc (.cells #[.slice A parts.length c,.bool rest] 97)):=(Below.refl _ _).alloc (Nat.le_refl _) _;clear hS hz e2;go_enter func181,ntmps181;go_upto_region 1 with fail;generalize w.alloc (.cells #[.slice A parts.length c,.bool rest] 97)=W1 at hB hA ⊢;have d0:W1.cell? ⟨w.heap.size,0,none⟩=some (.slice A parts.length c):=hB.cell 0;have d1:W1.cell? ⟨w.heap.size,1,none⟩=some (.bool rest):=hB.cell 1;have HB:=hd_ hB;have HA:=hd_ hA;clear hB hA;by_cases h0:parts.length=0
 ·have q0:((parts.length:Int) == 0)=true:=by rw[beq_iff_eq];omega
  have HR:=hd_ (HE0.out h0);clear h0;go_wp2_with fail;go_ret;exact⟨z7j HR.out.symm,HA.out⟩
 ·have q0:((parts.length:Int) == 0)=false:=by rw[beq_eq_false_iff_ne];omega
  by_cases h1:parts.length=1∧rest=false
  ·have q1:((parts.length:Int) == 1)=true:=by rw[beq_iff_eq];omega
   have HR:=hd_ (HE1.out h1.1 h1.2);obtain⟨h1,rfl⟩:=h1;clear h0 h1;go_wp2_with fail;go_ret;exact⟨z7j HR.out.symm,HA.out⟩
  ·have hpos:0<parts.length:=by omega
   have HN1:=hd_ (show ¬(parts.length=0∨(parts.length=1∧rest=false)) from fun h=>h.elim h0 h1);obtain⟨ad,rfl,hab,x0⟩:=Strs.at_ (HS.out.below HA.out) hpos;have hadd:(ad.add 0)=ad:=by unfold Addr.add;cases ad;simp
   have HX0:=hd_ (HCO.out _ (HZ.out _ (List.getElem_mem hpos)));have HNC:=hd_ (fun h=>HEC.out hpos h);obtain⟨fst,hfst⟩:∃ x,parts[0]=x:=⟨_,rfl⟩;rw[hfst] at x0;have HF:Hid (∀ X,Calls prog 215 #[.string fst] X fun e w'=>e=.returned (.bool (z0v fst))∧X=w'):=hd_ (fun X=>by rw[← hfst];exact HX0.out X)
   have HNC2:Hid (z0v fst=false→z7e ⟨parts,rest⟩=30):=hd_ (fun h=>HNC.out (by dsimp only;rw[hfst];exact h))
   have HYC2:Hid (z0v fst=true→∀ h:0<parts.length,z0v parts[0]=true):=hd_ (fun h _=>by rw[hfst];exact h)
   clear hfst HX0 HNC;clear h0 hab;have hone:((parts.length:Int) == 1)=true→rest=true:=fun h=>by
    cases rest with
    | true=>rfl
    | false=>exact absurd ⟨by rw[beq_iff_eq] at h;omega,rfl⟩ h1
   clear h1;rw[hadd] at x0;clear hadd;have hp0:(0:Int)<(parts.length:Int):=by omega
   go_cut [27] (fun v wx=>v=.bool (!z0v fst)∧wx=W1)
   case first =>
    have HON:=hd_ hone;clear hone;cases q1:((parts.length:Int) == 1) with
    | true =>
     obtain rfl:=HON.out q1
     go_wp2_with fail;refine (HF.out _).mono ?_;rintro e w' ⟨rfl,rfl⟩;go_wp2_with fail;go_meet
     exact⟨rfl,rfl⟩
    | false =>
     go_wp2_with fail;refine (HF.out _).mono ?_;rintro e w' ⟨rfl,rfl⟩;go_wp2_with fail;go_meet
     exact⟨rfl,rfl⟩
   case rest =>
    obtain⟨rfl,rfl⟩:=hcut;have HNO:=hd_ hone;clear hone x0 hp0 q0;cases hc:z0v fst with
    | false =>
     have HR:=hd_ (HNC2.out hc);clear hc;go_wp2_with fail;go_ret;exact⟨z7j HR.out.symm,HA.out⟩
    | true =>
     have HYC:=hd_ (HYC2.out hc);obtain⟨A2,c2,hrun,hrow⟩:=z0b (P:=prog) (t:=29) (lo:=1) (x:=1) (kx:=.i64) underlying29 Tryz.sizeOf9 (HS.out.below HA.out) (by omega) rfl
     rw[Nat.one_mul,← List.map_drop] at hrow;obtain⟨l2,hl2⟩:∃ l2,parts.drop 1=l2:=⟨_,rfl⟩;have hlen:parts.length - 1=l2.length:=by rw[← hl2,List.length_drop]
     rw[hl2] at hrow;rw[hlen] at hrow hrun;have HS2:Hid (Strs wc (.slice A2 l2.length c2) l2):=hd_ hrow;have HGT:Hid (∀ j (hj:j<l2.length),∃ h:j+1<parts.length,parts[j+1]=l2[j]):=hd_ (fun j hj=>⟨by omega,by subst hl2;rw[List.getElem_drop];congr 1;omega⟩)
     have HLN:=hd_ hlen;have hl2b:l2.length≤9223372036854775806:=by omega
     clear hrow hl2 hlen hc;go_wp2_with fail;clear hrun;go_loop [32] (fun i=>∃ k:Nat,k≤l2.length∧i=.int .i64 k∧Hid (∀ j (hj:j<l2.length),j<k→z95 l2[j]=true)) (fun i=>l2.length - (intOf i).toNat)
     case atStart=>exact⟨0,Nat.zero_le _,rfl,fun j _ h=>by omega⟩
     case round =>
      obtain⟨k,hk,rfl,HI⟩:=hrel;by_cases hlt:k<l2.length
      ·obtain⟨ad2,rfl,hab2,x1⟩:=Strs.at_ HS2.out hlt;have HPX:=hd_ (fun X=>HPA.out l2[k] (by obtain⟨h,e⟩:=HGT.out k hlt;rw[← e];exact HZ.out _ (List.getElem_mem h)) X)
       have HBD:Hid (z95 l2[k]=false→z7e ⟨parts,rest⟩=30):=hd_ (fun h=>by obtain⟨h1,e⟩:=HGT.out k hlt;exact HEP.out k h1 (by rw[e];exact h))
       have HGD:Hid (z95 l2[k]=true→∀ j (hj:j<l2.length),j<k+1→z95 l2[j]=true):=hd_ (fun h j hj a=>by
        by_cases e:j=k
        ·subst e;exact h
        ·exact HI.out j hj (by omega))
       generalize hx:l2[k]=x at x1 HPX HBD HGD;clear hx HI;cases hb:z95 x with
       | false =>
        have HR:=hd_ (HBD.out hb);rw[hb] at HPX;clear hb;go_wp2_with fail;refine (HPX.out _).mono ?_;rintro e w' ⟨rfl,rfl⟩;go_wp2_with fail;go_ret;exact⟨z7j HR.out.symm,HA.out⟩
       | true =>
        have HJ:=hd_ (HGD.out hb);rw[hb] at HPX;clear hb;go_wp2_with fail;refine (HPX.out _).mono ?_;rintro e w' ⟨rfl,rfl⟩;go_wp2_with fail;go_round
        case rel=>exact⟨k+1,by omega,by go_num,HJ.out⟩
        case measure=>simp [intOf];omega
      ·have HR:=hd_ (HEE.out HN1.out (fun h=>HYC.out h) (fun j hj=>by
        obtain⟨h,e⟩:=HGT.out j (by have:=HLN.out;omega)
        rw[e];exact HI.out j _ (by have:=HLN.out;omega)))
       clear HI;by_cases h12:12<parts.length
       ·have q12:decide ((12:Int)<(parts.length:Int))=true:=by simp;omega
        have HR2:Hid (z7e ⟨parts,rest⟩=31):=hd_ (by rw[HR.out];exact if_pos h12)
        clear h12;go_wp2_with fail;go_ret;exact⟨z7j HR2.out.symm,HA.out⟩
       ·have q12:decide ((12:Int)<(parts.length:Int))=false:=by simp;omega
        have HR2:Hid (z7e ⟨parts,rest⟩=0):=hd_ (by rw[HR.out];exact if_neg h12)
        clear h12;go_wp2_with fail;go_ret;exact⟨z7j HR2.out.symm,HA.out⟩
theorem zcb {s:List UInt8}{k:Nat}{cs:List (List UInt8)}(h:z2q s k=some cs):∀ c∈cs,z0u c=true:=by
 unfold z2q at h;split at h
 ·rename_i hc
  injection h with h
  subst h;exact fun c hc2=>List.all_eq_true.1 hc.2.2 c hc2
 ·cases h
theorem zcc {p:Pat}(h:z7e p=0){k:Nat}(hk:k<p.parts.length):z7b p.parts[k]≠0:=by
 intro hf;have:z7c k p.parts[k]=false:=by unfold z7c;rw[hf];simp
 rw[z9x (z7f hk this)] at h;cases h
def goB (p:Pat)(cs:List (List UInt8)):Bool:=decide (z7e p=0) && z8c p cs
theorem capR_eq {part comp:ByteArray}(hp:z7b part≠0)(hs:z79 part=true)(hb:z82 part comp=true):z97 part comp=z81 part comp:=by
 unfold z82 at hb;rw[if_pos hs,Bool.and_eq_true] at hb;unfold z97 z81;rw[z9b hp,hs,hb.1];simp only[Bool.and_self,if_true]
 apply z1m
 rw[z9f];unfold Lib.trimSuffix;rw[hb.1];simp
theorem zcd (p:Pat)(s:ByteArray)(A:Option Addr)(c:Nat)(w:World)(he:Env w)(hs:s.size≤1000000)(hS:Strs w (.slice A p.parts.length c) p.parts)(hz:∀ x∈p.parts,x.size≤maxLen):
  Calls prog 225 #[.agg #[.slice A p.parts.length c,.bool p.rest],.string s] w (z8h w p s):=by
 obtain⟨A',c',e',hcc,hmm,-⟩:=id hS;injection e' with e1 e2 e3
 subst e1 e3;unfold maxLen at hmm;have HS:=hd_ hS;have HZ:=hd_ hz;have HND:=hd_ (@zbc p s);have HNO:=hd_ (fun cs=>@zbd p s cs);have HYE:=hd_ (fun cs=>@zbe p s cs);have HPN:=hd_ (fun X (h:z8e p s=none) (hb:Below w.heap.size w X)=>zbf h hb);have hB:=z0l w [.slice A p.parts.length c,.bool p.rest] 97;have hA:Below w.heap.size w (w.alloc (.cells #[.slice A p.parts.length c,.bool p.rest] 97)):=(Below.refl _ _).alloc (Nat.le_refl _) _;have HPA:=hd_ (fun X cs (hX:Below w.heap.size w X) h=>z91 s cs X (he.below hX) (by omega) h)
 have HPB:=hd_ (fun X (hX:Below w.heap.size w X) h=>z92 s X (he.below hX) (by omega) h)
 have HCK:=hd_ (fun X (hX:Below w.heap.size w X)=>zca p A c X (hS.below hX) hz);have HSZ:=hd_ hs;clear hS hz he e2 hs;go_enter func225,ntmps225;go_upto_region 1 with fail;generalize w.alloc (.cells #[.slice A p.parts.length c,.bool p.rest] 97)=W1 at hB hA ⊢;have HB:=hd_ hB;have HA:=hd_ hA;clear hB hA;cases hd:z2q s.data.toList 2 with
 | none =>
  have HP1:=hd_ (HPB.out W1 HA.out hd);have HR:=hd_ (HND.out hd);clear hd;go_wp2_with fail;refine HP1.out.mono ?_;rintro e w2 ⟨rfl,hb2⟩;have HB2:=hd_ (z0r HA.out hb2);have d0:w2.cell? ⟨w.heap.size,0,none⟩=some (.slice A p.parts.length c):=(HB.out.below hb2 HB.out.lt).cell 0;have d1:w2.cell? ⟨w.heap.size,1,none⟩=some (.bool p.rest):=(HB.out.below hb2 HB.out.lt).cell 1;have HC2:=hd_ (HCK.out w2 HB2.out);clear hb2;generalize z7e p=pe at HC2;by_cases h0:pe=0
  ·have q:(pe != 0)=false:=by simpa using h0
   clear h0;go_wp2_with fail;refine HC2.out.mono ?_;rintro e w3 ⟨rfl,hb3⟩;have HB3:=hd_ (z0r HB2.out hb3);clear hb3 d0 d1;go_wp2_with fail;go_ret2;exact HPN.out _ HR.out HB3.out
  ·have q:(pe != 0)=true:=by simpa using h0
   clear h0;go_wp2_with fail;refine HC2.out.mono ?_;rintro e w3 ⟨rfl,hb3⟩;have HB3:=hd_ (z0r HB2.out hb3);clear hb3 d0 d1;go_wp2_with fail;go_ret2;exact HPN.out _ HR.out HB3.out
 | some cs =>
 have HP1:=hd_ (HPA.out W1 cs HA.out hd);have hK2:=z0l W1 (z6v cs) 9;have hb2:Below W1.heap.size W1 (W1.alloc (.cells (z6v cs).toArray 9)):=(Below.refl _ _).alloc (Nat.le_refl _) _;generalize W1.alloc (.cells (z6v cs).toArray 9)=w2 at HP1 hK2 hb2;have HD:=hd_ hd;have HDP:=hd_ (zbi hd);have HDC:=hd_ (zcb hd);have HK2:=hd_ hK2;have HB2:=hd_ (z0r HA.out hb2);have d0:w2.cell? ⟨w.heap.size,0,none⟩=some (.slice A p.parts.length c):=(HB.out.below hb2 HB.out.lt).cell 0;have d1:w2.cell? ⟨w.heap.size,1,none⟩=some (.bool p.rest):=(HB.out.below hb2 HB.out.lt).cell 1;have HBW:=hd_ (HB.out.below hb2 HB.out.lt);clear hd hK2 hb2 HND HPA HPB;have hcl:cs.length≤1000001:=by have:=HDP.out.2.1;have:=HSZ.out;omega
 generalize hg2:W1.heap.size=g2 at HK2 HP1;clear hg2;have HC2:=hd_ (HCK.out w2 HB2.out);clear HCK;obtain⟨bb,hbb⟩:∃ b,goB p cs=b:=⟨_,rfl⟩;have HFD:Hid (bb=(decide (z7e p=0) && (decide (p.parts.length≤cs.length) && (decide (p.parts.length<cs.length) == p.rest)))):=hd_ (by rw[← hbb];rfl)
 have HFB:Hid (goB p cs=bb):=hd_ hbb;clear hbb;obtain⟨pe,hpe⟩:∃ e,z7e p=e:=⟨_,rfl⟩;rw[hpe] at HC2 HFD;have HPE:=hd_ hpe;clear hpe;go_wp2_with fail;refine HP1.out.mono ?_;rintro e w' ⟨rfl,rfl⟩;go_upto_region 3 with fail;go_cut [57] (fun v wx=>v=.bool (!bb)∧Hid (Below w2.heap.size w2 wx))
 case first =>
  have HD0:=hd_ d0;have HD1:=hd_ d1;by_cases h0:pe=0
  case neg =>
   have q:(pe != 0)=true:=by simpa using h0
   have hbf:bb=false:=by rw[HFD.out,decide_eq_false h0];rfl
   subst hbf;clear h0 HFD;go_wp2_with fail;refine HC2.out.mono ?_;rintro e w3 ⟨rfl,hb3⟩;clear d0 d1;go_wp2_with fail;go_meet
   exact⟨rfl,hb3⟩
  have q:(pe != 0)=false:=by simpa using h0
  have HFE:Hid (bb=(decide (p.parts.length≤cs.length) && (decide (p.parts.length<cs.length) == p.rest))):=hd_ (by rw[HFD.out,decide_eq_true h0];rfl)
  clear h0 HFD;by_cases h1:cs.length<p.parts.length
  ·have hbf:bb=false:=by rw[HFE.out,decide_eq_false (by omega)];rfl
   have q1:decide ((cs.length:Int)<(p.parts.length:Int))=true:=by simp;omega
   have q1':decide (cs.length<p.parts.length)=true:=by simp;omega
   subst hbf;clear h1 HFE;go_wp2_with fail;refine HC2.out.mono ?_;rintro e w3 ⟨rfl,hb3⟩;clear d0 d1;go_wp2_with fail;go_meet
   exact⟨by first | rfl | (rw[q1'];rfl),hb3⟩
  ·have q1:decide ((cs.length:Int)<(p.parts.length:Int))=false:=by simp;omega
   have q1':decide (cs.length<p.parts.length)=false:=by simp;omega
   rcases Bool.eq_false_or_eq_true p.rest with hr | hr
   case inl =>
    rw[hr] at d1 HC2;by_cases h2:p.parts.length<cs.length
    ·have q3:((cs.length:Int) == (p.parts.length:Int))=false:=by rw[beq_eq_false_iff_ne];omega
     have q3':(cs.length == p.parts.length)=false:=by rw[beq_eq_false_iff_ne];omega
     have hbf:bb=true:=by rw[HFE.out,hr,decide_eq_true (show p.parts.length≤cs.length by omega),decide_eq_true h2];rfl
     subst hbf;clear h1 h2 HFE hr;go_wp2_with fail;refine HC2.out.mono ?_;rintro e w3 ⟨rfl,hb3⟩;have e1:w3.cell? ⟨w.heap.size,1,none⟩=some (.bool true):=(z04 d1 hb3 (z03 d1));go_wp2_with fail;go_meet
     exact⟨by first | rfl | simp [q1',q3'],hb3⟩
    ·have q3:((cs.length:Int) == (p.parts.length:Int))=true:=by rw[beq_iff_eq];omega
     have q3':(cs.length == p.parts.length)=true:=by rw[beq_iff_eq];omega
     have hbf:bb=false:=by rw[HFE.out,hr,decide_eq_false h2];simp
     subst hbf;clear h1 h2 HFE hr;go_wp2_with fail;refine HC2.out.mono ?_;rintro e w3 ⟨rfl,hb3⟩;have e1:w3.cell? ⟨w.heap.size,1,none⟩=some (.bool true):=(z04 d1 hb3 (z03 d1));go_wp2_with fail;go_meet
     exact⟨by first | rfl | simp [q1',q3'],hb3⟩
   case inr =>
    rw[hr] at d1 HC2;by_cases h2:p.parts.length<cs.length
    ·have q2:decide ((p.parts.length:Int)<(cs.length:Int))=true:=by simp;omega
     have q2':decide (p.parts.length<cs.length)=true:=by simp;omega
     have hbf:bb=false:=by rw[HFE.out,hr,decide_eq_true h2];simp
     subst hbf;clear h1 h2 HFE hr;go_wp2_with fail;refine HC2.out.mono ?_;rintro e w3 ⟨rfl,hb3⟩;have e1:w3.cell? ⟨w.heap.size,1,none⟩=some (.bool false):=(z04 d1 hb3 (z03 d1));go_wp2_with fail;go_meet
     exact⟨by first | rfl | simp [q1',q2'],hb3⟩
    ·have q2:decide ((p.parts.length:Int)<(cs.length:Int))=false:=by simp;omega
     have q2':decide (p.parts.length<cs.length)=false:=by simp;omega
     have hbf:bb=true:=by rw[HFE.out,hr,decide_eq_true (show p.parts.length≤cs.length by omega),decide_eq_false h2];rfl
     subst hbf;clear h1 h2 HFE hr;go_wp2_with fail;refine HC2.out.mono ?_;rintro e w3 ⟨rfl,hb3⟩;have e1:w3.cell? ⟨w.heap.size,1,none⟩=some (.bool false):=(z04 d1 hb3 (z03 d1));go_wp2_with fail;go_meet
     exact⟨by first | rfl | simp [q1',q2'],hb3⟩
 case rest =>
  obtain⟨rfl,hcb⟩:=hcut;have HB3:=hd_ (z0r HB2.out hcb.out);have HK3:=hd_ (HK2.out.below hcb.out HK2.out.lt);have HBW3:=hd_ (HBW.out.below hcb.out HBW.out.lt);clear hcb d0 d1 HC2 HK2 HBW HP1;have d0:wc.cell? ⟨w.heap.size,0,none⟩=some (.slice A p.parts.length c):=HBW3.out.cell 0;have d1:wc.cell? ⟨w.heap.size,1,none⟩=some (.bool p.rest):=HBW3.out.cell 1;cases bb with
  | false =>
   have HR:=hd_ (HNO.out _ HD.out (fun h=>by have h2:=HFB.out;unfold goB at h2;rw[h.1,h.2.1] at h2;cases h2))
   go_wp2_with fail;go_ret2;exact HPN.out _ HR.out HB3.out
  | true =>
   rw[show (!true)=false from rfl];have hgo:=HFB.out;unfold goB at hgo;rw[Bool.and_eq_true,decide_eq_true_eq] at hgo;have HP0:=hd_ hgo.1;have HFT:=hd_ hgo.2;have hle:p.parts.length≤cs.length:=by
    have:=hgo.2;unfold z8c at this;rw[Bool.and_eq_true,decide_eq_true_eq] at this;exact this.1
   clear HFD hgo HFB;have HNZ:=hd_ (fun k (hk:k<p.parts.length) (h:z82 (z88 p.parts k) (z89 cs k)=false)=>HNO.out _ HD.out (fun hh=>by have:=hh.2.2;rw[z8g hk h] at this;cases this))
   have HYY:=hd_ (fun(h:z8a p.parts cs p.parts.length=true)=>HYE.out _ HD.out HP0.out HFT.out h);have HCL:=hd_ hcl;have HLE:=hd_ hle;go_wp2_with fail;clear d0 d1;go_loopw [9,61] (fun u s wr=>∃(k m:Nat) (A2:Option Addr) (c2:Nat),s=.int .i64 k∧u=.slice A2 m c2∧k≤p.parts.length∧m≤k∧Hid (m=(z8b p.parts cs k).length∧z8a p.parts cs k=true∧Below wc.heap.size wc wr∧wr.ownsRow wc.heap.size 9 1 (.slice A2 m c2) m ((z8b p.parts cs k).map .string))) (fun _ s _=>p.parts.length - (intOf s).toNat)
   case atStart=>exact⟨0,0,none,0,rfl,rfl,Nat.zero_le _,Nat.le_refl _,rfl,rfl,Below.refl _ _,World.ownsRow_nil _ _ _ _⟩
   case round =>
    obtain⟨k,m,A2,c2,rfl,rfl,hk,hmk,HI⟩:=hrel;by_cases hlt:k<p.parts.length
    ·have hkc:k<cs.length:=by omega
     have hz1:(k:Int)<(cs.length:Int):=by omega
     have hbw:=z0r HB3.out HI.out.2.2.1;obtain⟨ad,rfl,hab,x0⟩:=Strs.at_ (HS.out.below hbw) hlt;have x1:=(HK3.out.below HI.out.2.2.1 HK3.out.lt).strs k hkc;have HX:=hd_ (zbg hlt);have HY:=hd_ (zbh hkc);have hps:(p.parts[k]).size≤maxLen:=HZ.out _ (List.getElem_mem hlt);have hcz:(baL cs[k]).size≤maxLen:=by rw[z6x];have:=HDP.out.1 _ (List.getElem_mem hkc);have:=HSZ.out;unfold maxLen;omega
     have hfo:=zcc HP0.out hlt;have hcap:z98 p.parts[k] (baL cs[k])=z82 p.parts[k] (baL cs[k]):=z9g hfo (HDC.out _ (List.getElem_mem hkc));generalize p.parts[k]=part at x0 HX hps hcap hfo;generalize baL cs[k]=comp at x1 HY hcz hcap;have HM:=hd_ (fun X=>z9r part comp X hps hcz);have HT:=hd_ (fun X=>z9n part X hps);rw[hcap] at HM;unfold z9k at HT;rw[z9b hfo] at HT;have HCE:Hid (z79 part=true→z82 part comp=true→z97 part comp=z81 part comp):=hd_ (capR_eq hfo);have HNK:Hid (z82 part comp=false→z8e p s=none):=hd_ (fun h=>HNZ.out k hlt (by rw[HX.out,HY.out];exact h))
     have HZB:Hid (z82 part comp=true→z8a p.parts cs (k+1)=true):=hd_ (fun h=>by rw[z8f,HI.out.2.1,HX.out,HY.out,h];rfl)
     have HZC:Hid (z8b p.parts cs (k+1)=z8b p.parts cs k++(if z79 part then [z81 part comp] else [])):=hd_ (by rw[← HX.out,← HY.out];rfl)
     generalize z81 part comp=x at HZC HCE;generalize z97 part comp=y at HM HCE;generalize z82 part comp=b at HM HNK HZB HCE;generalize z79 part=st at HT HZC HCE;generalize z80 part=sx at HT;clear hbw hps hcz hab hcap hfo;cases b with
     | false =>
      have HR:=hd_ (HNK.out rfl);have HBI:=hd_ (z0r HB3.out HI.out.2.2.1);go_wp2_with fail;refine (HM.out _).mono ?_;rintro e w' ⟨rfl,rfl⟩;go_wp2_with fail;go_ret2;exact HPN.out _ HR.out HBI.out
     | true =>
      have HB:=hd_ (HZB.out rfl);cases st with
      | false =>
       have HN:Hid (m=(z8b p.parts cs (k+1)).length∧z8a p.parts cs (k+1)=true∧Below wc.heap.size wc wr∧wr.ownsRow wc.heap.size 9 1 (.slice A2 m c2) m ((z8b p.parts cs (k+1)).map .string)):=hd_ (by
        have e:z8b p.parts cs (k+1)=z8b p.parts cs k:=by rw[HZC.out];simp
        rw[e];exact⟨HI.out.1,HB.out,HI.out.2.2.1,HI.out.2.2.2⟩)
       go_wp2_with fail;refine (HM.out _).mono ?_;rintro e w' ⟨rfl,rfl⟩;go_wp2_with fail;refine (HT.out _).mono ?_;rintro e w' ⟨rfl,rfl⟩;go_wp2_with fail;go_roundw
       case rel=>exact⟨k+1,m,A2,c2,by go_num,rfl,by omega,by omega,HN.out⟩
       case measure=>simp [intOf];omega
      | true =>
       have HOW:=hd_ HI.out.2.2.2;have HBI:=hd_ HI.out.2.2.1;have hyx:=HCE.out rfl rfl;subst hyx;go_wp2_with fail;refine (HM.out _).mono ?_;rintro e w' ⟨rfl,rfl⟩;go_wp2_with fail;refine (HT.out _).mono ?_;rintro e w' ⟨rfl,rfl⟩;go_wp2_with (first
        | (at_builtin;refine z0k rfl rfl z87 (z0n HOW.out ((Below.refl _ _).alloc (Nat.le_refl _) _)) rfl (z0i _ [.string y] _ 1 1 rfl (by decide) _ (by simp)) rfl (HBI.out.alloc HBI.out.size _) (HBI.out.alloc HBI.out.size _).size (by simp [Value.oneCell']) (by omega) (by unfold maxLen;omega) ?_;intro A' c' w5 hown5 hbl5))
       have HN:Hid (m+1=(z8b p.parts cs (k+1)).length∧z8a p.parts cs (k+1)=true∧Below wc.heap.size wc w5∧w5.ownsRow wc.heap.size 9 1 (.slice A' (m+1) c') (m+1) ((z8b p.parts cs (k+1)).map .string)):=hd_ (by
        have e:z8b p.parts cs (k+1)=z8b p.parts cs k++[y]:=by rw[HZC.out];rfl
        rw[e];refine⟨by rw[List.length_append,List.length_singleton,HI.out.1],HB.out,hbl5,?_⟩
        rw[List.map_append];exact hown5)
       clear hown5 hbl5;go_wp2_with fail;go_roundw
       case rel=>exact⟨k+1,m+1,A',c',by go_num,rfl,by omega,by omega,HN.out⟩
       case measure=>simp [intOf];omega
    ·have hke:k=p.parts.length:=by omega
     have HF:Hid (m=(z8b p.parts cs p.parts.length).length∧z8e p s=some (z8d p cs)∧Below wc.heap.size wc wr∧wr.ownsRow wc.heap.size 9 1 (.slice A2 m c2) m ((z8b p.parts cs p.parts.length).map .string)):=hd_ (by
      have h:=HI.out;rw[hke] at h;exact⟨h.1,HYY.out h.2.1,h.2.2.1,h.2.2.2⟩)
     have d1:wr.cell? ⟨w.heap.size,1,none⟩=some (.bool p.rest):=(HBW3.out.below HI.out.2.2.1 HBW3.out.lt).cell 1;have hge:¬((k:Int)<(p.parts.length:Int)):=by omega
     clear HI hke;cases hr:p.rest with
     | false =>
      rw[hr] at d1;have HRS:=hd_ hr;clear hr;go_wp2_with fail;go_ret2;refine⟨A2,m,c2,by rw[HF.out.2.1];rfl,z0r HB3.out HF.out.2.2.1,fun l hl=>?_⟩
      rw[HF.out.2.1] at hl;injection hl with hl
      have e:z8d p cs=z8b p.parts cs p.parts.length:=by unfold z8d;rw[HRS.out];simp
      rw[e] at hl;subst hl;refine⟨HF.out.1,?_⟩;have:=Row.of_own HF.out.2.2.2;rw[HF.out.1] at this ⊢;exact this
     | true =>
      rw[hr] at d1;have HRS:=hd_ hr;clear hr;have hnc:p.parts.length<cs.length:=by
       have h:=HFT.out;unfold z8c at h;rw[HRS.out] at h;simp only[Bool.and_eq_true,beq_iff_eq,decide_eq_true_eq] at h
       exact h.2
      have hK:=HK3.out.below HF.out.2.2.1 HK3.out.lt;have hat:z8k wr g2 p.parts.length (cs.drop p.parts.length):=fun j hj=>by
       rw[List.length_drop] at hj;rw[List.getElem_drop];exact hK.strs _ (by omega)
      have hJ:=z8n (cs.drop p.parts.length) g2 p.parts.length (cs.length - p.parts.length) wr hat (by rw[List.length_drop];omega) (by rw[List.length_drop];omega) (by rw[List.length_drop];omega) (by have:=zbj cs p.parts.length;have:=HDP.out.2.2;have:=HSZ.out;omega)
      rw[List.length_drop] at hJ;have HJ:=hd_ hJ;have HCP:Hid (z8d p cs=z8b p.parts cs p.parts.length++[baL (Lib.join (cs.drop p.parts.length) [47])]):=hd_ (by unfold z8d;rw[HRS.out];rfl)
      generalize baL (Lib.join (cs.drop p.parts.length) [47])=x at HJ HCP;clear hJ hat hK;go_wp2_with fail;refine HJ.out.mono ?_;rintro e w6 ⟨rfl,hb6⟩;have HOW:=hd_ (z0n HF.out.2.2.2 hb6);have HBI:=hd_ (z0r HF.out.2.2.1 hb6);clear hb6;go_wp2_with (first
       | (at_builtin;refine z0k rfl rfl z87 (z0n HOW.out ((Below.refl _ _).alloc (Nat.le_refl _) _)) rfl (z0i _ [.string x] _ 1 1 rfl (by decide) _ (by simp)) rfl (HBI.out.alloc HBI.out.size _) (HBI.out.alloc HBI.out.size _).size (by simp [Value.oneCell']) (by omega) (by unfold maxLen;omega) ?_;intro A' c' w7 hown7 hbl7))
      have HO7:=hd_ hown7;have HB7:=hd_ hbl7;clear hown7 hbl7;go_wp2_with fail;go_ret2;refine⟨A',m+1,c',by rw[HF.out.2.1];rfl,z0r HB3.out HB7.out,fun l hl=>?_⟩
      rw[HF.out.2.1] at hl;injection hl with hl
      rw[HCP.out] at hl;subst hl;have hm:=HF.out.1;refine⟨by rw[List.length_append,List.length_singleton,hm],?_⟩
      have h7:=Row.of_own HO7.out;show Row w7 1 _ (z8b p.parts cs p.parts.length++[x]).length _
      rw[List.length_append,List.length_singleton,← hm,List.map_append];exact h7
end Go.Proofs.YtegeboijhifmcaaGreatDoor
