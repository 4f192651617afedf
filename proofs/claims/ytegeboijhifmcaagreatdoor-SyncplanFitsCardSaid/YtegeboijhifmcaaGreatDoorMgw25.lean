/- slices.SortFunc at a few paths. -/
import Derived.Test.YtegeboijhifmcaaGreatDoorMgw9
import Derived.Test.YtegeboijhifmcaaGreatDoorMgw3
import Derived.Test.YtegeboijhifmcaaGreatDoorMgw8
import Derived.Test.YtegeboijhifmcaaGreatDoorMgw10
import Derived.Test.YtegeboijhifmcaaGreatDoorMgw11
import Derived.Test.YtegeboijhifmcaaGreatDoorMgw18
import Derived.Test.YtegeboijhifmcaaGreatDoorMgw24
import Derived.Test.YtegeboijhifmcaaGreatDoorMgw22
import Derived.Test.YtegeboijhifmcaaGreatDoorMgw19
namespace Go.Proofs.YtegeboijhifmcaaGreatDoor
set_option linter.unusedVariables false
set_option linter.unusedSimpArgs false
set_option maxHeartbeats 8000000
set_option maxRecDepth 100000
open Go.RowKit Go.Lib
open Go.Sort hiding Below
abbrev zaq:={ s:ByteArray // z2s s=true∧s.size≤1000000 }
instance:Inhabited zaq:=⟨⟨z5t,z5u,by unfold z5t;decide⟩⟩
def zaq.enc (x:zaq):Value:=.string x.1
def zaq.cmp (x y:zaq):Int:=z2u x.1 y.1
theorem zar:z5p zaq.cmp:=totP (f:=fun r:zaq=>r.1) fun r=>r.2.1
theorem zas (blk off size:Nat)(w:World):CmpReads Tryz.prog 45 #[] zaq.enc zaq.cmp blk off size w:=
 fun m os dk _ x y=>(z41 x.1 y.1 (sortWorld zaq.enc w blk off m dk os) (by have:=x.2.2;omega) (by have:=y.2.2;omega)).mono fun e w' h=>h
theorem zat:∀ {l:List ByteArray},(∀ r∈l,z2s r=true∧r.size≤1000000)→∃ l':List zaq,l'.map (·.1)=l
 | [],_=>⟨[],rfl⟩
 | r :: l,h=>by
  obtain⟨l',rfl⟩:=zat fun x hx=>h x (List.mem_cons_of_mem _ hx);exact⟨⟨r,h r (List.mem_cons_self ..)⟩ :: l',rfl⟩
theorem zau (A:Option Addr)(c:Nat)(w:World):Calls Tryz.prog 150 #[.slice A 0 c,.int .i64 0,.int .i64 0,.func (.func 45) #[] #[]] w fun e w'=>e=.returned (.tuple #[])∧w=w':=by
 go_enter Tryz.func150,Tryz.ntmps150;go_wp2
 refine wp_loop_rounds 1 ?_;rw[rounds_succ];go_wp2
 go_end0
 exact⟨rfl,rfl⟩
def SrEnd (w:World)(v:Value)(l:List ByteArray)(w':World):Prop:=∃ l':List ByteArray,l'.Perm l∧l'.Pairwise (fun a b=>¬ z2u b a<0)∧Row w' 1 v l.length (l'.map .string)∧w.grownBy w' v.ownBlock
def SrPost (w:World)(base:Nat)(v:Value)(l:List ByteArray)(e:Ending)(w':World):Prop:=
 e=.returned (.tuple #[])∧SrEnd w v l w'
theorem zav (l:List zaq)(v:Value)(base:Nat)(lim:Int)(w:World)(hown:w.ownsRow base 9 1 v l.length (l.map zaq.enc))(hl:l.length≤12)(h0:0<l.length):
  Calls Tryz.prog 104 #[v,.int .i64 0,.int .i64 l.length,.int .i64 lim,.func (.func 45) #[] #[]] w (SrPost w base v (l.map (·.1))):=by
 obtain⟨g,cap,rfl⟩:=z0s hown h0;have hHold:Holds zaq.enc w g 0 l.toArray:=fun j hj=>by
  have hj':j<l.length:=by simpa using hj
  have h1:=zac hown (j:=j) (u:=zaq.enc l[j]) (by rw[List.getElem?_map,List.getElem?_eq_getElem hj'];rfl)
  rw[Nat.zero_add,getElem!_pos l.toArray j hj];exact⟨h1.1,h1.2.1⟩
 have H:=hd_ (Tryz.insertionSortCmpFunc_one zaq.enc (fun _=>rfl) zaq.cmp 45 #[] g 0 cap 0 l.length l.toArray w (fun args w=>by kernel_rfl) (zas g 0 _ w) hHold (Nat.zero_le _) (by simp) (by simp;omega))
 have HH:=hd_ hHold;have HO:=hd_ hown;have hs0:l.toArray.size=l.length:=by simp
 rw[hs0,show ((0:Nat):Int)=0 from rfl] at H;have hle:decide ((l.length:Int)≤12)=true:=by simp;omega
 have hle':decide (l.length≤12)=true:=by simp;omega
 clear hown hHold hs0;go_enter Tryz.func104,Tryz.ntmps104;go_wp2_with fail;go_loop [1,2] (fun a b=>a=.int .i64 0∧b=.int .i64 l.length) (fun _ _=>1)
 case atStart=>exact⟨rfl,rfl⟩
 case round =>
  obtain⟨rfl,rfl⟩:=hrel;go_wp2_with fail;refine H.out.mono ?_;rintro e w' ⟨rfl,n,rfl⟩;go_wp2_with fail;go_end0
  have hs0:l.toArray.size=l.length:=by simp
  obtain⟨k1,k2⟩:=Go.Sort.insertionSort_holds zar.swo l.toArray 0 l.length (Nat.zero_le _) (by rw[hs0];exact Nat.le_refl _)
  have hHn:=holds_putRow zaq.enc w g 0 l.toArray (Sort.insertionSort (ltOf zaq.cmp) l.toArray 0 l.length) HH.out k1.1;have hgrow:w.grownBy ((putRow zaq.enc w g 0 (Sort.insertionSort (ltOf zaq.cmp) l.toArray 0 l.length)).drewN n) (some g):=by
   refine⟨rfl,rfl,rfl,by show w.heap.size≤(putRow zaq.enc w g 0 _).heap.size;rw[size_putRow];exact Nat.le_refl _,fun k hk hne=>?_⟩
   show (w.heap.modify g _)[k]? = w.heap[k]?
   rw[Array.getElem?_modify,if_neg (fun e=>hne (by rw[e]))]
  have hlt:g<w.heap.size:=(HO.out.lt g rfl).2;generalize hd:Sort.insertionSort (ltOf zaq.cmp) l.toArray 0 l.length=d' at k1 k2 hHn hgrow;have hs:d'.size=l.length:=by rw[k1.1,hs0]
  refine⟨rfl,(d'.toList).map (·.1),?_,?_,?_,hgrow⟩
  ·refine List.Perm.map _ ?_;have:=k1.2.2;rw[← hs,Array.extract_size,hs,← hs0,Array.extract_size] at this;simpa using this
  ·rw[List.pairwise_map,List.pairwise_iff_getElem];intro i j hi hj hij;have hi':i<d'.size:=by simpa using hi
   have hj':j<d'.size:=by simpa using hj
   have:=k2 i j (Nat.zero_le _) hij (by omega)
   rw[getElem!_pos d' j hj',getElem!_pos d' i hi'] at this;have h3:=of_decide_eq_false (show decide (z2u d'[j].1 d'[i].1<0)=false from this);simpa using h3
  ·rw[List.length_map];obtain⟨A',c',e,h1,h2,-⟩:=Row.of_own HO.out;injection e with e1 e2 e3
   subst e3;refine⟨_,_,rfl,h1,h2,by simp [hs],fun h=>(by cases h),fun _=>⟨_,rfl,Nat.lt_of_lt_of_le hlt hgrow.size,fun j u hu=>?_⟩⟩
   have hadd:(⟨g,0,none⟩:Addr).add j=⟨g,j,none⟩:=by unfold Addr.add;split <;> simp_all
   rw[hadd];rw[List.map_map,List.getElem?_map,Option.map_eq_some_iff] at hu;obtain⟨x,hx,rfl⟩:=hu;rw[List.getElem?_eq_some_iff] at hx;obtain⟨hj,hx⟩:=hx;have hj':j<d'.size:=by simpa using hj
   have:=(hHn j hj').1;rw[Nat.zero_add,getElem!_pos d' j hj'] at this;have hx':d'[j]=x:=by simpa using hx
   rw[hx'] at this;exact this
theorem zaw (A:Option Addr)(c:Nat)(lim:Int)(w:World):
  Calls Tryz.prog 104 #[.slice A 0 c,.int .i64 0,.int .i64 0,.int .i64 lim,.func (.func 45) #[] #[]] w fun e w'=>e=.returned (.tuple #[])∧w=w':=by
 have H:=hd_ (zau A c w);go_enter Tryz.func104,Tryz.ntmps104;go_wp2_with fail;go_loop [1,2] (fun a b=>a=.int .i64 0∧b=.int .i64 0) (fun _ _=>1)
 case atStart=>exact⟨rfl,rfl⟩
 case round =>
  obtain⟨rfl,rfl⟩:=hrel;go_wp2_with fail;refine H.out.mono ?_;rintro e w' ⟨rfl,rfl⟩;go_wp2_with fail;exact bodyPost_ret (v:=.tuple #[]) (by simp [results,Tryz.results104,go_sem]) rfl ⟨rfl,rfl⟩
theorem zax (l:List ByteArray)(v:Value)(base:Nat)(w:World)(hown:w.ownsRow base 9 1 v l.length (l.map .string))(hl:l.length≤12)(hv:∀ x∈l,z2s x=true∧x.size≤1000000):
  Calls Tryz.prog 68 #[v,.func (.func 45) #[] #[]] w (SrPost w base v l):=by
 obtain⟨A,c,rfl⟩:=z0o hown;have HL:=hd_ (Tryz.bits_Len (l.length:Int) w (by omega) (by omega))
 have hw:IntKind.u64.wrap (l.length:Int)=(l.length:Int):=by simp [IntKind.wrap,IntKind.bits,IntKind.signed];omega
 by_cases h0:l.length=0
 ·have hl0:l=[]:=List.eq_nil_of_length_eq_zero h0;subst hl0;have H:=hd_ (fun lim=>zaw A c lim w);have HO:=hd_ hown;clear hown hv;go_enter Tryz.func68,Tryz.ntmps68;go_wp2_with fail;refine HL.out.mono ?_;rintro e w' ⟨rfl,rfl⟩;go_wp2_with fail;refine (H.out _).mono ?_;rintro e w' ⟨rfl,rfl⟩;go_wp2_with fail;go_end0
  exact⟨rfl,[],List.Perm.refl _,List.Pairwise.nil,Row.of_own HO.out,⟨rfl,rfl,rfl,Nat.le_refl _,fun _ _ _=>rfl⟩⟩
 ·obtain⟨l',rfl⟩:=zat hv;rw[List.length_map] at h0 hl hw HL;have H:=hd_ (fun lim=>zav l' (.slice A (l'.map (·.1)).length c) base lim w (by rw[List.map_map] at hown;rw[List.length_map] at hown ⊢;exact hown) hl (by omega))
  rw[List.length_map] at H ⊢;clear hown hv;go_enter Tryz.func68,Tryz.ntmps68;go_wp2_with fail;refine HL.out.mono ?_;rintro e w' ⟨rfl,rfl⟩;go_wp2_with fail;refine (H.out _).mono ?_;rintro e w' ⟨rfl,h1⟩;have H1:=hd_ h1;clear h1;go_wp2_with fail;go_end0
  exact⟨rfl,H1.out⟩
open Go.RowKit
open Go.Sort (grow)
def addP (l:List ByteArray)(p:ByteArray):List ByteArray:=if p∈l then l else l++[p]
def zb1 (D:List Rev):List ByteArray:=D.foldl (fun l r=>addP l r.path) []
theorem zb2 (D:List Rev)(k:Nat)(hk:k<D.length):zb1 (D.take (k+1))=addP (zb1 (D.take k)) D[k].path:=by
 unfold zb1;rw[List.take_succ_eq_append_getElem hk,List.foldl_append];rfl
theorem zb3 {l:List ByteArray}{p q:ByteArray}:q∈addP l p↔q∈l∨q=p:=by
 unfold addP;split
 ·rename_i h
  exact⟨.inl,fun h2=>h2.elim id fun e=>e ▸ h⟩
 ·simp
theorem zb4 (D:List Rev){q:ByteArray}:q∈zb1 D↔∃ r∈D,r.path=q:=by
 suffices h:∀(D:List Rev) (l:List ByteArray),q∈D.foldl (fun l r=>addP l r.path) l↔q∈l∨∃ r∈D,r.path=q by
  unfold zb1;rw[h];simp
 intro D;induction D with
 | nil=>intro l;simp
 | cons r D ih =>
  intro l;rw[List.foldl_cons,ih,zb3];constructor
  ·rintro ((h | h) | ⟨x,hx,h⟩)
   ·exact .inl h
   ·exact .inr ⟨r,List.mem_cons_self ..,h.symm⟩
   ·exact .inr ⟨x,List.mem_cons_of_mem _ hx,h⟩
  ·rintro (h | ⟨x,hx,h⟩)
   ·exact .inl (.inl h)
   ·rcases List.mem_cons.1 hx with rfl | hx
    ·exact .inl (.inr h.symm)
    ·exact .inr ⟨x,hx,h⟩
theorem zb5 (D:List Rev):(zb1 D).Nodup:=by
 suffices h:∀(D:List Rev) (l:List ByteArray),l.Nodup→(D.foldl (fun l r=>addP l r.path) l).Nodup from h D [] List.nodup_nil
 intro D;induction D with
 | nil=>intro l hl;exact hl
 | cons r D ih =>
  intro l hl;rw[List.foldl_cons];refine ih _ ?_;unfold addP;split
  ·exact hl
  ·rename_i h
   exact List.nodup_append.2 ⟨hl,by simp,fun a ha b hb=>by rw[List.mem_singleton] at hb;subst hb;exact fun e=>h (by rw[← e];exact ha)⟩
theorem zb6 {α:Type}[DecidableEq α]:∀ {l B:List α},l.Nodup→(∀ x∈l,x∈B)→l.length≤B.length
 | [],B,_,_=>Nat.zero_le _
 | a :: l,B,hn,hs=>by
  have h1:=List.nodup_cons.1 hn;have ha:=hs a (List.mem_cons_self ..);have:=zb6 (B:=B.erase a) h1.2 fun x hx=>(List.mem_erase_of_ne (fun e=>h1.1 (by rw[← e];exact hx))).2 (hs x (List.mem_cons_of_mem _ hx))
  rw[List.length_erase_of_mem ha] at this;have hp:=List.length_pos_of_mem ha;rw[List.length_cons];omega
theorem zb7 {D:List Rev}{B:List ByteArray}(h:∀ r∈D,r.path∈B):(zb1 D).length≤B.length:=zb6 (zb5 D) fun q hq=>by
 obtain⟨r,hr,rfl⟩:=(zb4 D).1 hq;exact h r hr
theorem zb8 {l l':List ByteArray}(hp:l'.Perm l)(hs:l'.Pairwise (fun a b=>¬ z2u b a<0))(hn:l.Nodup)(hv:∀ x∈l,z2s x=true):z5x (fun q:ByteArray=>q) l':=by
 have hn':l'.Pairwise (·≠·):=(hp.nodup_iff).2 hn;have hv':∀ x∈l',z2s x=true:=fun x hx=>hv x (hp.mem_iff.1 hx);have h2:=List.pairwise_and_iff.2 ⟨hs,hn'⟩;unfold z5x;refine (List.Pairwise.imp_of_mem ?_ h2);intro a b ha hb ⟨h3,h4⟩
 rw[z5q] at h3;have h5:z2u a b≠0:=fun e=>h4 (z5r (hv' a ha) (hv' b hb) e);show z2u a b<0
 omega
structure zb9 (w wr:World)(v:Value)(l:List ByteArray):Prop where
 low:Below w.heap.size w wr
 map:z2f Value.string z4i wr (w.heap.size+1) (z4h l)
 own:wr.ownsRow (w.heap.size+1+1) 9 1 v l.length (l.map .string)
theorem zb9.under {w wr wx:World}{v:Value}{l:List ByteArray}(h:zb9 w wr v l)(hb:Below wr.heap.size wr wx):zb9 w wx v l:=⟨z0r h.low hb,h.map.below hb,z0n h.own hb⟩
theorem zb9.upd {w wr w3:World}{v:Value}{l:List ByteArray}{f:ByteArray→Option Unit}(h:zb9 w wr v l)(hM:z2f Value.string z4i w3 (w.heap.size+1) f)(hg:wr.grownBy w3 (some (w.heap.size+1))):
  Below w.heap.size w w3∧w3.ownsRow (w.heap.size+1+1) 9 1 v l.length (l.map .string):=
 ⟨h.low.grown hg h.low.size (fun k e=>by injection e with e;omega),z4q h.own hg (fun x e e2=>by injection e2 with e2;have:=(h.own.lt x e).1;omega)⟩
theorem zba (p:ByteArray)(l:List ByteArray):z4h (l++[p])=upd (z4h l) p ():=by
 rw[← z4j];funext x
 unfold z4h;by_cases h:x∈l++[p]
 ·rw[if_pos h,if_pos (by simp at h ⊢;exact h.symm)]
 ·rw[if_neg h,if_neg (by simp at h ⊢;exact⟨h.2,h.1⟩)]
theorem zbb (D:List Rev)(B:List ByteArray)(dv dr:Value)(w:World)(hR:z45 w dv D)(hl:D.length≤1000000)(hB:∀ r∈D,r.path∈B)(hB12:B.length≤12)(hBv:∀ x∈B,z2s x=true∧x.size≤1000000):
  Calls Tryz.prog 41 #[.agg #[dv,dr]] w fun e w'=>∃ v l,e=.returned v∧Below w.heap.size w w'∧Strs w' v l∧z5x (fun q:ByteArray=>q) l∧∀ q,q∈l↔∃ r∈D,r.path=q:=by
 obtain⟨Ar,cr,rfl,-⟩:=id hR;have hBox:=z0l w [.slice Ar D.length cr,dr] 26;have hA:Below w.heap.size w (w.alloc (.cells #[.slice Ar D.length cr,dr] 26)):=(Below.refl _ _).alloc (Nat.le_refl _) _;have hs1:(w.alloc (.cells #[.slice Ar D.length cr,dr] 26)).heap.size=w.heap.size+1:=by simp
 have hmm:=@run_makeMap Tryz.prog;have HR:=hd_ hR;have HB:=hd_ hB;have HBV:=hd_ hBv;have HLL:Hid (∀ k,(zb1 (D.take k)).length≤12):=hd_ (fun k=>Nat.le_trans (zb7 (B:=B) fun r hr=>hB r (List.mem_of_mem_take hr)) hB12);have HTK:=hd_ (zb2 D);clear hR hB hBv hB12;go_enter Tryz.func41,Tryz.ntmps41;go_upto_region 1 with fail;generalize w.alloc (.cells #[.slice Ar D.length cr,dr] 26)=W1 at hBox hA hs1 ⊢;have HS0:Hid (zb9 w (W1.alloc (.map #[] 0)) (.slice none 0 0) []):=hd_ (by
  refine⟨hA.alloc hA.size _,?_,World.ownsRow_nil _ _ _ _⟩;have:=z2f.new Value.string z4i W1;rw[hs1] at this;exact this)
 have d0:(W1.alloc (.map #[] 0)).cell? ⟨w.heap.size,0,none⟩=some (.slice Ar D.length cr):=(hBox.alloc _).cell 0;have HS1:=hd_ hs1;clear hBox hA hs1;go_upto_region 3 with fail;rw[HS1.out];generalize W1.alloc (.map #[] 0)=W2 at HS0 d0 ⊢;clear hmm;go_wp2_with fail;go_loopw [4,13] (fun lv i wr=>∃(k n:Nat) (A:Option Addr) (c:Nat),lv=.slice A n c∧i=.int .i64 k∧k≤D.length∧Hid (n=(zb1 (D.take k)).length∧zb9 w wr (.slice A n c) (zb1 (D.take k)))) (fun _ i _=>D.length - (intOf i).toNat)
 case atStart=>exact⟨0,0,none,0,rfl,rfl,Nat.zero_le _,hd_ ⟨rfl,HS0.out⟩⟩
 case round =>
  obtain⟨k,n,A,c,rfl,rfl,hk,HI⟩:=hrel;clear d0;by_cases hlt:k<D.length
  ·obtain⟨ad,rfl,hab,hld⟩:=z45.at_ (HR.out.below HI.out.2.low) hlt;have HT:=hd_ (HTK.out k hlt);have hbv:=HBV.out _ (HB.out D[k] (List.getElem_mem hlt));have HL1:=hd_ (HLL.out (k+1));have HL0:=hd_ (HLL.out k);generalize D[k]=r at hld HT hbv;obtain⟨x0,x1,x2,x3,x4,x5,x6,x7,x8,x9,x10,x11⟩:=hld;have hX:=z0l wr [.string r.path,.int .i64 r.num,.int .i64 r.chg,.int .i64 r.act,.int .i64 r.ty.base,.bool r.ty.k,.bool r.ty.l,.bool r.ty.x,.int .u64 r.sum,.int .i64 r.size,.string r.frm,.int .i64 r.fnum] 66;have HX:Hid (zb9 w (wr.alloc (.cells #[.string r.path,.int .i64 r.num,.int .i64 r.chg,.int .i64 r.act,.int .i64 r.ty.base,.bool r.ty.k,.bool r.ty.l,.bool r.ty.x,.int .u64 r.sum,.int .i64 r.size,.string r.frm,.int .i64 r.fnum] 66)) (.slice A n c) (zb1 (D.take k))):=hd_ (HI.out.2.under ((Below.refl _ _).alloc (Nat.le_refl _) _));go_upto_region 6 with fail;clear x0 x1 x2 x3 x4 x5 x6 x7 x8 x9 x10 x11 hab;have hg6:w.heap.size+1<wr.heap.size:=HI.out.2.map.lt;generalize wr.alloc (.cells #[.string r.path,.int .i64 r.num,.int .i64 r.chg,.int .i64 r.act,.int .i64 r.ty.base,.bool r.ty.k,.bool r.ty.l,.bool r.ty.x,.int .u64 r.sum,.int .i64 r.size,.string r.frm,.int .i64 r.fnum] 66)=W6 at hX HX ⊢;generalize wr.heap.size=g6 at hX hg6 ⊢;have y0:W6.cell? ⟨g6,0,none⟩=some (.string r.path):=hX.cell 0;have HX6:=hd_ hX;have HN0:=hd_ HI.out.1;clear hX;generalize hll:zb1 (D.take k)=l at HX HT HL0 HN0;obtain⟨p,hpe⟩:∃ p,r.path=p:=⟨_,rfl⟩;rw[hpe] at y0 HT hbv;have HPE:=hd_ hpe;clear hpe;have HLK:=hd_ hlt;have hlk:=z2f.lookup (w:=W6) HX.out.map (z2d Tryz.underlying9) Tryz.underlying80 (z:=.agg #[]) (by rfl) p true
   clear hll HI;by_cases hin:p∈l
   ·have hv:z2h z4i (.agg #[]) true (z4h l p)=.tuple #[.agg #[],.bool true]:=by unfold z4h;rw[if_pos hin];rfl
    rw[hv] at hlk;have HT2:Hid (zb1 (D.take (k+1))=l):=hd_ (by rw[HT.out];exact if_pos hin)
    clear hin hv;go_wp2_with fail;go_roundw
    case rel=>exact⟨k+1,n,A,c,rfl,by go_num,by omega,hd_ ⟨by rw[HT2.out];exact HN0.out,by rw[HT2.out];exact HX.out.under ((Below.refl _ _).alloc (Nat.le_refl _) _)⟩⟩
    case measure=>simp [intOf];omega
   ·have hv:z2h z4i (.agg #[]) true (z4h l p)=.tuple #[.agg #[],.bool false]:=by unfold z4h;rw[if_neg hin];rfl
    rw[hv] at hlk;have HT2:Hid (zb1 (D.take (k+1))=l++[p]):=hd_ (by rw[HT.out];exact if_neg hin)
    have HVA:=hd_ (fun X=>zb0 p true hbv.1 X (by have:=hbv.2;omega))
    clear hin hv;have HX7:=hd_ (HX.out.under ((Below.refl W6.heap.size W6).alloc (Nat.le_refl _) (.cells #[] 106)));have hX7:=HX6.out.alloc (.cells #[] 106);have y7:(W6.alloc (.cells #[] 106)).cell? ⟨g6,0,none⟩=some (.string p):=by rw[← HPE.out];exact hX7.cell 0
    obtain⟨w3,hup,hM3,hg3,-⟩:=z2f.update (w:=W6.alloc (.cells #[] 106)) HX7.out.map (z2d Tryz.underlying9) Tryz.underlying80 p ();have hup':(Instr.mapUpdate 80 (.map (some (w.heap.size+1))) (.string p) (.agg #[])).run Tryz.prog (W6.alloc (.cells #[] 106))=.ok () w3:=hup;have y3:w3.cell? ⟨g6,0,none⟩=some (.string p):=by rw[← HPE.out];exact (hX7.grown hg3 (fun e=>by injection e with e;omega)).cell 0
    obtain⟨hlo,how⟩:=HX7.out.upd hM3 hg3;have hba:Below w3.heap.size w3 (w3.alloc (.cells #[.string p] 9)):=(Below.refl _ _).alloc (Nat.le_refl _) _;have hlo4:=z0r hlo hba;have how4:=z0n how hba;have hM4:=hM3.below hba;have hrow:=z0i w3 [.string p] 9 1 1 rfl (by decide) _ rfl
    have hsz:w.heap.size+1+1≤(w3.alloc (.cells #[.string p] 9)).heap.size:=by have:=hM4.lt;omega
    have HN1:=hd_ HN0.out;have hn12:n≤12:=by have h1:=HN0.out;have h2:=HL0.out;omega
    have hown:(w3.alloc (.cells #[.string p] 9)).ownsRow (w.heap.size+1+1) 9 1 (.slice A n c) n (l.map .string):=by rw[HN0.out] at how4 ⊢;exact how4
    have HLO:=hd_ hlo4;have HMA:=hd_ hM4;have HOW:=hd_ hown;clear hup hX7 hlo how hba hlo4 how4 hM4 hown hM3;go_wp2_with (first
     | (go_at_call 67;refine (HVA.out _).mono ?_;rintro e w' ⟨rfl,rfl⟩)
     | (at_builtin;refine z0j rfl rfl z87 HOW.out rfl hrow rfl (by simp [Value.oneCell']) (by omega) (by unfold maxLen;omega) hsz ?_;intro A' c' w9 hown hgr hob))
    have HP:Hid (zb9 w w9 (.slice A' (n+1) c') (l++[p])):=hd_ (by
     refine⟨HLO.out.grown hgr HLO.out.size (fun k e=>by have:=(HOW.out.lt k e).1;omega),?_,?_⟩
     ·rw[zba];exact HMA.out.grown hgr (fun e=>by have:=(HOW.out.lt _ e.symm).1;omega)
     ·rw[List.length_append,List.length_singleton,← HN1.out,List.map_append];exact hown)
    clear hown hgr hob;go_wp2_with fail;go_roundw
    case rel=>exact⟨k+1,n+1,A',c',rfl,by go_num,by omega,hd_ ⟨by rw[HT2.out,List.length_append,← HN1.out];rfl,by rw[HT2.out];exact HP.out⟩⟩
    case measure=>simp [intOf];omega
  ·have hke:k=D.length:=by omega
   subst hke;rw[List.take_length] at HI;have hge:¬((D.length:Int)<(D.length:Int)):=by omega
   have HLD:=hd_ (HLL.out D.length);rw[List.take_length] at HLD;have HSO:=hd_ (zax (zb1 D) (.slice A n c) (w.heap.size+1+1) wr HI.out.2.own HLD.out (fun x hx=>by
    obtain⟨r,hr,rfl⟩:=(zb4 D).1 hx;exact HBV.out _ (HB.out r hr)))
   go_wp2_with fail;refine HSO.out.mono ?_;rintro e w9 ⟨rfl,h9⟩;have H9:=hd_ h9;clear h9;go_wp2_with fail;go_ret;obtain⟨l',hp,hs,hr,hg⟩:=H9.out;refine⟨_,l',rfl,HI.out.2.low.grown hg HI.out.2.low.size (fun k e=>by have:=(HI.out.2.own.lt k e).1;omega),?_,zb8 hp hs (zb5 D) (fun x hx=>by
    obtain⟨r,hr,rfl⟩:=(zb4 D).1 hx;exact (HBV.out _ (HB.out r hr)).1),fun q=>by rw[hp.mem_iff];exact zb4 D⟩
   show Row w9 1 _ l'.length _
   rw[hp.length_eq];exact hr
theorem z6t.onto {S:List Nat}{w W w':World}(h:z6t S w W)(hb:Below w.heap.size W w'):z6t S w w':=
 ⟨hb.os.trans h.os,hb.tape.trans h.tape,hb.output.trans h.output,Nat.le_trans h.size hb.size,fun k hk hs=>(hb.block k hk).trans (h.block k hk hs)⟩
theorem zgf.onto {w W w':World}{U g m:Nat}(h:zgf W U g m)(hU:U≤w.heap.size)(hb:Below w.heap.size W w'):zgf w' U g m:=h.keep hb.size fun x hx=>hb.block x (by omega)
def WtPost (w:World)(U g m:Nat)(e:Ending)(w':World):Prop:=∃ ty:Ty,e=.returned ty.val∧zgf w' U g m∧z6t [g] w w'
theorem wt_ret (U g m:Nat)(w w2:World)(ty:Ty)(hB:Blk w2 w.heap.size 61 [.int .i64 0,.bool false,.bool false,.bool false])(hT:zgf w2 U g m)(hK:z6t [g] w w2)(hU:U≤w.heap.size)(u0 u1 u3 u4 u5 u6 u7 u8 u9 gn gt gu gx gy gz gA:Value):
  bodyPost Tryz.prog Tryz.f92 (WtPost w U g m) .ret ⟨#[u0,u1,.pointer (some ⟨w.heap.size,0,none⟩),u3,u4,u5,u6,u7,u8,u9,gn,gt,gu,gx,gy,gz,gA],[]⟩ ((((w2.setCell ⟨w.heap.size,0,none⟩ (.int .i64 ty.base)).setCell ⟨w.heap.size,1,none⟩ (.bool ty.k)).setCell ⟨w.heap.size,2,none⟩ (.bool ty.l)).setCell ⟨w.heap.size,3,none⟩ (.bool ty.x)):=by
 have hE:=(((hB.set_ 0 (.int .i64 ty.base)).set_ 1 (.bool ty.k)).set_ 2 (.bool ty.l)).set_ 3 (.bool ty.x);have hb:=(((((Below.refl w.heap.size w2).setCell (p:=⟨w.heap.size,0,none⟩) (by simp) (.int .i64 ty.base)).setCell (p:=⟨w.heap.size,1,none⟩) (by simp) (.bool ty.k)).setCell (p:=⟨w.heap.size,2,none⟩) (by simp) (.bool ty.l)).setCell (p:=⟨w.heap.size,3,none⟩) (by simp) (.bool ty.x))
 generalize (((w2.setCell ⟨w.heap.size,0,none⟩ (.int .i64 ty.base)).setCell ⟨w.heap.size,1,none⟩ (.bool ty.k)).setCell ⟨w.heap.size,2,none⟩ (.bool ty.l)).setCell ⟨w.heap.size,3,none⟩ (.bool ty.x)=W8 at hE hb ⊢;have e0:=hE.cell 0;have e1:=hE.cell 1;have e2:=hE.cell 2;have e3:=hE.cell 3;exact bodyPost_ret (v:=ty.val) (by simp [results,Tryz.results92,go_sem,e0,e1,e2,e3,Ty.val]) rfl ⟨ty,rfl,hT.onto hU hb,hK.onto hb⟩
theorem zmv (U g m:Nat)(w:World)(hT:zgf w U g m)(hU:U≤w.heap.size)(hm:m≤100000):
  Calls Tryz.prog 92 #[.pointer (some ⟨g,0,none⟩)] w (WtPost w U g (m+1)):=by
 have hg:=hT.lt;obtain⟨W1,hW1⟩:∃ W,W=(w.alloc (.cells #[.int .i64 0,.bool false,.bool false,.bool false] 61)).alloc (.cells #[.int .i64 1,.bool false,.bool false,.bool false,.int .i64 2,.bool false,.bool false,.bool false,.int .i64 1,.bool true,.bool false,.bool false,.int .i64 2,.bool false,.bool false,.bool true,.int .i64 3,.bool false,.bool false,.bool false] 61):=⟨_,rfl⟩;have hA:Below w.heap.size w W1:=by rw[hW1];exact ((Below.refl _ _).alloc (Nat.le_refl _) _).alloc (by simp) _
 have hB0:Blk W1 w.heap.size 61 [.int .i64 0,.bool false,.bool false,.bool false]:=by rw[hW1];exact (z0l w _ _).alloc _
 have hB1:Blk W1 (w.heap.size+1) 61 [.int .i64 1,.bool false,.bool false,.bool false,.int .i64 2,.bool false,.bool false,.bool false,.int .i64 1,.bool true,.bool false,.bool false,.int .i64 2,.bool false,.bool false,.bool true,.int .i64 3,.bool false,.bool false,.bool false]:=by
  rw[hW1];have:=z0l (w.alloc (.cells #[.int .i64 0,.bool false,.bool false,.bool false] 61)) [.int .i64 1,.bool false,.bool false,.bool false,.int .i64 2,.bool false,.bool false,.bool false,.int .i64 1,.bool true,.bool false,.bool false,.int .i64 2,.bool false,.bool false,.bool true,.int .i64 3,.bool false,.bool false,.bool false] 61;simp only[World.size_alloc] at this
  exact this
 have HN:=hd_ (zgg U g m 5 W1 (hT.below hA) (by omega) (by omega))
 have HW:=hd_ hW1;have HB:=hd_ (And.intro hB0 hB1);have HA:=hd_ (z6t.below (S:=[g]) hA);have HU:=hd_ hU;have HG:Hid (w.heap.size∉[g]∧w.heap.size+1∉[g]):=hd_ (by simp;omega)
 clear hT hA hW1 hB0 hB1 hU;go_enter Tryz.func92,Tryz.ntmps92;go_upto_region 2 with fail;rw[← HW.out];go_wp2_with fail;refine HN.out.mono ?_;rintro e w2 ⟨k,rfl,hk,hT2,hK2⟩;dsimp only;have HX:Hid (Blk _ _ _ _):=hd_ (hK2.blk HB.out.1 HG.out.1);have hY:=hK2.blk HB.out.2 HG.out.2;obtain⟨y0,y1,y2,y3,y4,y5,y6,y7,y8,y9⟩:=(⟨hY.cell 0,hY.cell 1,hY.cell 2,hY.cell 3,hY.cell 4,hY.cell 5,hY.cell 6,hY.cell 7,hY.cell 8,hY.cell 9⟩:w2.cell? ⟨w.heap.size+1,0,none⟩=some (.int .i64 1)∧w2.cell? ⟨w.heap.size+1,1,none⟩=some (.bool false)∧w2.cell? ⟨w.heap.size+1,2,none⟩=some (.bool false)∧w2.cell? ⟨w.heap.size+1,3,none⟩=some (.bool false)∧w2.cell? ⟨w.heap.size+1,4,none⟩=some (.int .i64 2)∧w2.cell? ⟨w.heap.size+1,5,none⟩=some (.bool false)∧w2.cell? ⟨w.heap.size+1,6,none⟩=some (.bool false)∧w2.cell? ⟨w.heap.size+1,7,none⟩=some (.bool false)∧w2.cell? ⟨w.heap.size+1,8,none⟩=some (.int .i64 1)∧w2.cell? ⟨w.heap.size+1,9,none⟩=some (.bool true));obtain⟨z0,z1,z2,z3,z4,z5,z6,z7,z8,z9⟩:=(⟨hY.cell 10,hY.cell 11,hY.cell 12,hY.cell 13,hY.cell 14,hY.cell 15,hY.cell 16,hY.cell 17,hY.cell 18,hY.cell 19⟩:w2.cell? ⟨w.heap.size+1,10,none⟩=some (.bool false)∧w2.cell? ⟨w.heap.size+1,11,none⟩=some (.bool false)∧w2.cell? ⟨w.heap.size+1,12,none⟩=some (.int .i64 2)∧w2.cell? ⟨w.heap.size+1,13,none⟩=some (.bool false)∧w2.cell? ⟨w.heap.size+1,14,none⟩=some (.bool false)∧w2.cell? ⟨w.heap.size+1,15,none⟩=some (.bool true)∧w2.cell? ⟨w.heap.size+1,16,none⟩=some (.int .i64 3)∧w2.cell? ⟨w.heap.size+1,17,none⟩=some (.bool false)∧w2.cell? ⟨w.heap.size+1,18,none⟩=some (.bool false)∧w2.cell? ⟨w.heap.size+1,19,none⟩=some (.bool false));obtain⟨x0,x1,x2,x3⟩:=(⟨HX.out.cell 0,HX.out.cell 1,HX.out.cell 2,HX.out.cell 3⟩:w2.cell? ⟨w.heap.size,0,none⟩=some (.int .i64 0)∧w2.cell? ⟨w.heap.size,1,none⟩=some (.bool false)∧w2.cell? ⟨w.heap.size,2,none⟩=some (.bool false)∧w2.cell? ⟨w.heap.size,3,none⟩=some (.bool false));obtain⟨f0,f1,f2,f3⟩:=(⟨HX.out.frozen 0,HX.out.frozen 1,HX.out.frozen 2,HX.out.frozen 3⟩:w2.frozen? ⟨w.heap.size,0,none⟩=false∧w2.frozen? ⟨w.heap.size,1,none⟩=false∧w2.frozen? ⟨w.heap.size,2,none⟩=false∧w2.frozen? ⟨w.heap.size,3,none⟩=false)
 have h5:k=0∨k=1∨k=2∨k=3∨k=4:=by obtain⟨a,b,-⟩:=hk;have:=b (by omega);omega
 have HT2:=hd_ hT2;have HK2:=hd_ (HA.out.trans hK2);have HFI:=hd_ (fun ty=>wt_ret U g (m+1) w w2 ty HX.out HT2.out HK2.out HU.out);clear hk hT2 hK2 hY HN;rcases h5 with rfl | rfl | rfl | rfl | rfl
 ·go_wp2_with fail;exact HFI.out ⟨1,false,false,false⟩ _ _ _ _ _ _ _ _ _ _ _ _ _ _ _ _
 ·go_wp2_with fail;exact HFI.out ⟨2,false,false,false⟩ _ _ _ _ _ _ _ _ _ _ _ _ _ _ _ _
 ·go_wp2_with fail;exact HFI.out ⟨1,true,false,false⟩ _ _ _ _ _ _ _ _ _ _ _ _ _ _ _ _
 ·go_wp2_with fail;exact HFI.out ⟨2,false,false,true⟩ _ _ _ _ _ _ _ _ _ _ _ _ _ _ _ _
 ·go_wp2_with fail;exact HFI.out ⟨3,false,false,false⟩ _ _ _ _ _ _ _ _ _ _ _ _ _ _ _ _
theorem znp {x:ByteArray}(h:z7b x≠0):z95 x=true:=by
 unfold z95 z94;unfold z7b at h;cases hc:z0v x with
 | true=>simp
 | false =>
  rw[hc] at h;cases hs:z79 x with
  | false=>rw[hs] at h;exact absurd rfl h
  | true =>
   rw[hs] at h;cases ht:z7a x with
   | false=>rw[ht] at h;exact absurd rfl h
   | true=>rfl
theorem zcs.pushS {w wr w2:World}{g4 g11 n:Nat}{v:Value}{b:Bool}{l:List ByteArray}{x:ByteArray}{A':Option Addr}{c':Nat}(h:zcs w wr g4 g11 v b l)(hn:n=l.length)
  (hown:w2.ownsRow w.heap.size 9 1 (.slice A' (n+1) c') (n+1) (l.map .string++[.string x])) (hgr:wr.grownBy w2 v.ownBlock)
  (hob:(Value.slice A' (n+1) c').ownBlock=v.ownBlock∨(Value.slice A' (n+1) c').ownBlock=some wr.heap.size):
  zcs w (w2.setCell ⟨g11,0,none⟩ (.slice A' (n+1) c')) g4 g11 (.slice A' (n+1) c') b (l++[x]):=h.app (m:=[x]) (by rw[hn];rfl) hown hgr hob
theorem znq (p:Pat)(l:List ByteArray)(A:Option Addr)(a:Nat)(B1:Addr)(c1:Nat)(C:Option Addr)(m c:Nat)(w:World)(hp:za9 w (.slice A p.parts.length a) p)(hn:zcm p)
  (hb:Row w 2 (.slice (some B1) 1 c1) 1 [.slice C m c,.bool true]) (hl:Strs w (.slice C m c) l) (hz:∀ x∈l,x.size≤1000000) (hf:∀ x∈l,z7b x≠0) (hle:p.parts.length+l.length≤12):
  Calls Tryz.prog 219 #[.agg #[.slice A p.parts.length a,.bool true],.slice (some B1) 1 c1] w (zcr w p l):=by
 have hml:m=l.length:=by obtain⟨A',c',e,-⟩:=id hl;injection e
 subst hml;have hcells:w.cell? B1=some (.slice C l.length c)∧w.cell? ⟨B1.block,B1.off+1,none⟩=some (.bool true)∧B1.block<w.heap.size:=by
  obtain⟨A',c',e,-,-,-,-,hx⟩:=id hb;injection e with e1 e2 e3
  obtain⟨ad,e4,hb4,hc4⟩:=hx (by omega)
  rw[← e1] at e4;injection e4 with e4
  subst e4;have h0:=hc4 0 _ rfl;have h1:=hc4 1 _ rfl;unfold Addr.add at h0 h1;exact⟨by simpa using h0,by simpa using h1,hb4⟩
 have hA:Below w.heap.size w ((w.alloc (.cells #[.slice A p.parts.length a,.bool true] 97)).alloc (.cells #[.slice none 0 0,.bool false] 97)):=((Below.refl _ _).alloc (Nat.le_refl _) _).alloc (by simp) _
 have h2:zbo ((w.alloc (.cells #[.slice A p.parts.length a,.bool true] 97)).alloc (.cells #[.slice none 0 0,.bool false] 97)) w.heap.size (.slice A p.parts.length a) true:=(z0l w [.slice A p.parts.length a,.bool true] 97).alloc _;have h3:zbo ((w.alloc (.cells #[.slice A p.parts.length a,.bool true] 97)).alloc (.cells #[.slice none 0 0,.bool false] 97)) (w.heap.size+1) (.slice none 0 0) false:=by
  have:=z0l (w.alloc (.cells #[.slice A p.parts.length a,.bool true] 97)) [.slice none 0 0,.bool false] 97;rw[World.size_alloc] at this;exact this
 have HCP:Hid (∀ X,Below w.heap.size w X→Calls Tryz.prog 181 #[.agg #[.slice A p.parts.length a,.bool true]] X fun e w'=>e=.returned (.int .i64 0)∧Below X.heap.size X w'):=hd_ (fun X hX=>by have:=zca p A a X (hp.below hX).1 hp.small;rw[hn.rest,hn.pat] at this;exact this)
 have HWC:=hd_ (fun X (hX:Below w.heap.size w X)=>zno p A a X (hp.below hX) hn);have HST:Hid (∀(k:Nat) (h:k<p.parts.length) X,Calls Tryz.prog 217 #[.string p.parts[k]] X fun e w'=>∃ s,e=.returned (.tuple #[.string s,.bool false])∧Below X.heap.size X w'):=hd_ fun k h X=>by
  have h0:z94 p.parts[k]=false:=by unfold z94;rw[hn.star _ (List.getElem_mem h)];rfl
  refine (z9n p.parts[k] X (hp.small _ (List.getElem_mem h))).mono ?_;rintro e w' ⟨rfl,rfl⟩;rw[h0];exact⟨_,rfl,Below.refl _ _⟩
 have HPT:Hid (∀(k:Nat) (h:k<l.length) X,Calls Tryz.prog 216 #[.string l[k]] X fun e w'=>e=.returned (.bool true)∧Below X.heap.size X w'):=hd_ fun k h X=>by
  refine (z9o l[k] X (by have:=hz _ (List.getElem_mem h);unfold maxLen;omega)).mono ?_
  rintro e w' ⟨rfl,rfl⟩;rw[znp (hf _ (List.getElem_mem h))];exact⟨rfl,Below.refl _ _⟩
 have HP:=hd_ hp;have HL:=hd_ hl;have HCE:=hd_ hcells;have HLE:=hd_ hle;have hcap:1≤c1:=by
  obtain⟨A',c',e,h1,-⟩:=id hb;injection e with e1 e2 e3
  omega
 clear hp hn hl hcells hz hf hb;go_enter Tryz.func219,Tryz.ntmps219;go_upto_region 1 with fail;generalize (w.alloc (.cells #[.slice A p.parts.length a,.bool true] 97)).alloc (.cells #[.slice none 0 0,.bool false] 97)=W1 at hA h2 h3 ⊢;have x0:=h2.c0;have x1:=h2.c1;have H:=hd_ (And.intro hA (And.intro h2 h3));have HC1:=hd_ (HCP.out W1 hA);clear hA h2 h3;go_wp2_with fail;refine HC1.out.mono ?_;rintro e w2 ⟨rfl,hb⟩;dsimp only;have HB:=hd_ (z0r H.out.1 hb);have HG:=hd_ (And.intro (H.out.2.1.low hb) (H.out.2.2.low hb));have HC2:=hd_ (HWC.out w2 HB.out);clear hb x0 x1;have x0:=HG.out.1.c0;have x1:=HG.out.1.c1;go_wp2_with fail;refine HC2.out.mono ?_;rintro e w3 ⟨rfl,hb⟩;dsimp only;have HB3:=hd_ (z0r HB.out hb);have HG3:=hd_ (And.intro (HG.out.1.low hb) (HG.out.2.low hb));clear hb x0 x1;have HS:Hid (zcs w (w3.alloc (.cells #[.slice none 0 0,.bool false] 97)) (w.heap.size+1) w3.heap.size (.slice none 0 0) false []):=hd_ (by
  have hba:Below w3.heap.size w3 (w3.alloc (.cells #[.slice none 0 0,.bool false] 97)):=(Below.refl _ _).alloc (Nat.le_refl _) _;have hl4:=Blk.lt HG3.out.2;exact⟨z0r HB3.out hba,by omega,by omega,HG3.out.2.low hba,z0l w3 _ _,World.ownsRow_nil _ _ _ _,(fun e=>by cases e),(fun e=>by cases e)⟩)
 have HGS:Hid (zbo (w3.alloc (.cells #[.slice none 0 0,.bool false] 97)) w.heap.size (.slice A p.parts.length a) true∧w.heap.size<w3.heap.size):=hd_ ⟨HG3.out.1.low ((Below.refl _ _).alloc (Nat.le_refl _) _),Blk.lt HG3.out.1⟩;have x0:=HGS.out.1.c0;go_upto_region 7 with fail;generalize w3.alloc (.cells #[.slice none 0 0,.bool false] 97)=W4 at HS HGS x0 ⊢;generalize w3.heap.size=g7 at HS HGS ⊢;go_wp2_with fail;clear x0;go_loopw [8,32] (fun z i wr=>∃(k:Nat) (v:Value),z=.int .i64 0∧i=.int .i64 k∧k≤p.parts.length∧Hid (zcs w wr (w.heap.size+1) g7 v false (p.parts.take k)∧zbo wr w.heap.size (.slice A p.parts.length a) true)) (fun _ i _=>p.parts.length - (intOf i).toNat)
 case atStart=>exact⟨0,_,rfl,rfl,Nat.zero_le _,hd_ ⟨HS.out,HGS.out.1⟩⟩
 case round =>
  obtain⟨k,v,rfl,rfl,hk,HI⟩:=hrel;clear HS;by_cases hlt:k<p.parts.length
  ·obtain⟨ad,rfl,hab,s0⟩:=Strs.at_ (HP.out.below HI.out.1.low).1 hlt;have HCI:=hd_ (HST.out k hlt wr);have HLT:=hd_ hlt;have HTK:=hd_ (show p.parts.take (k+1)=p.parts.take k++[p.parts[k]] from List.take_succ_eq_append_getElem hlt);have hkl:(p.parts.take k).length=k:=by rw[List.length_take];omega
   obtain⟨Av,cv,hv⟩:=z0o HI.out.1.own;rw[hkl] at hv;subst hv;generalize p.parts[k]=u at s0 HCI HTK;go_wp2_with fail;refine HCI.out.mono ?_;rintro e w4 ⟨s,rfl,hb⟩;dsimp only;have HI4:=hd_ (HI.out.1.under hb);have HPB4:=hd_ (HI.out.2.low hb);clear hb s0;have y0:=HI4.out.box.c0;have f0:=HI4.out.box.frozen 0;have hba:Below w4.heap.size w4 (w4.alloc (.cells #[.string u] 9)):=(Below.refl _ _).alloc (Nat.le_refl _) _;have HI5:=hd_ (HI4.out.under hba);have HPB5:=hd_ (HPB4.out.low hba);have ho5:=HI5.out.own;rw[hkl] at ho5;have HO5:=hd_ ho5;have HKL:=hd_ hkl;have hrow:=z0i w4 [.string u] 9 1 1 rfl (by unfold maxLen;omega) w4.heap.size rfl
   have hsz:=HI5.out.low.size;have hp12:=HLE.out;clear ho5 hba hkl;go_wp2_with (at_builtin;refine z0j rfl rfl zln HO5.out rfl hrow rfl (by simp [Value.oneCell']) (by omega) (by unfold maxLen;omega) hsz ?_;intro A' c' w6 hown hgr hob;have hbg:=Blk.grown HI5.out.box hgr (fun e=>HI5.out.ne e.symm);have z0:=Blk.cell hbg 0;have zf:=Blk.frozen hbg 0)
   have HN6:=hd_ (HI5.out.pushS (x:=u) HKL.out.symm hown hgr hob);have hpn:=zky HI5.out.own HPB5.out (by decide)
   have HPB6:=hd_ (Blk.far (Blk.grown HPB5.out hgr (fun e=>hpn e.symm)) (p:=⟨g7,0,none⟩) (by show g7≠w.heap.size;have:=HGS.out.2;omega) (.slice A' (k+1) c'))
   rw[← HTK.out] at HN6;clear hown hgr hob hbg z0 zf y0 f0 hrow hpn;go_wp2_with fail;go_roundw
   case rel=>exact⟨k+1,_,rfl,by go_num,by have:=HLT.out;omega,hd_ ⟨HN6.out,HPB6.out⟩⟩
   case measure=>have:=HLT.out;simp [intOf];omega
  ·have hke:k=p.parts.length:=by omega
   have HS3:Hid (zcs w wr (w.heap.size+1) g7 v false p.parts):=hd_ (by have:=HI.out.1;rw[hke,List.take_length] at this;exact this)
   obtain⟨Av,cv,rfl⟩:=z0o HS3.out.own;have b0:wr.cell? B1=some (.slice C l.length c):=(HS3.out.low.cell HCE.out.2.2).trans HCE.out.1;have b1:wr.cell? ⟨B1.block,B1.off+1,none⟩=some (.bool true):=(HS3.out.low.cell (p:=⟨B1.block,B1.off+1,none⟩) HCE.out.2.2).trans HCE.out.2.1;have x1:=HI.out.2.c1;have hba:Below wr.heap.size wr (wr.alloc (.cells #[.slice C l.length c,.bool true] 282)):=(Below.refl _ _).alloc (Nat.le_refl _) _;have HBX:=hd_ (z0l wr [.slice C l.length c,.bool true] 282);have HS4:=hd_ (HS3.out.under hba);have HNO:Hid ((Value.slice Av p.parts.length cv).ownBlock≠some wr.heap.size∧g7<wr.heap.size):=hd_ ⟨fun e=>by have:=(HS3.out.own.lt _ e).2;omega,Blk.lt HS3.out.box⟩
   clear hba hke hk HI;go_upto_region 21 with fail;generalize wr.alloc (.cells #[.slice C l.length c,.bool true] 282)=W5 at HBX HS4 ⊢;generalize wr.heap.size=g14 at HBX HNO ⊢;clear b0 b1 x1 HS3;have d0:W5.cell? ⟨g14,0,none⟩=some (.slice C l.length c):=HBX.out.cell 0;have d1:W5.cell? ⟨g14,1,none⟩=some (.bool true):=HBX.out.cell 1;obtain⟨cc,hcc⟩:∃ cc,((l.length:Int) == 0)=cc:=⟨_,rfl⟩;have HL5:=hd_ (fun X (hX:Below W5.heap.size W5 X)=>Strs.below HL.out (z0r HS4.out.low hX));have hl12:=HLE.out;have HIN:Hid (∀ X,Below W5.heap.size W5 X→Blk X g14 282 [.slice C l.length c,.bool true]∧zcs w X (w.heap.size+1) g7 (.slice Av p.parts.length cv) false p.parts):=hd_ fun X hX=>⟨HBX.out.below hX HBX.out.lt,HS4.out.under hX⟩;cases cc
   all_goals
    clear HBX HS4;go_wp2_with fail;clear hcc d0 d1;go_loopw [97] (fun i wr=>∃ k:Nat,i=.int .i64 k∧k≤l.length∧Hid (Below W5.heap.size W5 wr)) (fun i _=>l.length - (intOf i).toNat)
    case atStart=>exact⟨0,rfl,Nat.zero_le _,hd_ (Below.refl _ _)⟩
    case round =>
     obtain⟨k,rfl,hk,HI⟩:=hrel;by_cases hlt:k<l.length
     ·obtain⟨ad,rfl,hab,s0⟩:=Strs.at_ (HL5.out wr HI.out) hlt;have HCI:=hd_ (HPT.out k hlt wr);have HLT:=hd_ hlt;generalize l[k]=u at s0 HCI;go_wp2_with fail;refine HCI.out.mono ?_;rintro e w4 ⟨rfl,hb⟩;dsimp only;have HB4:=hd_ (z0r HI.out hb);clear hb s0;go_wp2_with fail;go_roundw
      case rel=>exact⟨k+1,by go_num,by have:=HLT.out;omega,HB4⟩
      case measure=>have:=HLT.out;simp [intOf];omega
     ·obtain⟨hbx,hsx⟩:=HIN.out wr HI.out;have hs:=HL5.out wr HI.out;go_upto_region 29 with fail;refine sbR29 _ (by kernel_rfl) _ w wr (w.heap.size+1) g7 g14 p.parts.length l.length cv c Av C p.parts l hsx hbx hs rfl rfl hl12 (by have:=HNO.out.2;omega) HNO.out.1 (fun h0 ad e=>by
       obtain⟨A9,c9,e9,-,-,-,-,h9⟩:=id HL.out;obtain⟨ad9,e10,hb9,-⟩:=h9 h0;injection e9 with e9 _ _
       rw[e,e10] at e9;injection e9 with e9
       rw[e9];have:=HGS.out.2;omega) _ _ _ _ _ _ _ _ _ _ _ _ _ _ _ _ _ _ _ _ _ _ _ _ _ _ _ _ _ _ _ _ _ _ _ _ _ _ _ _ _ _ _ _ _ _ _ _ _ _ _ _ _ _ _ _ _ _ _ _ _ _ _ _ _ _ _ _ _ _ _ _ _ _ _ _ _ _ _ _ _ _ _ _ _ _ _ _ _ _ _ _ _ _ _ _ _ _ _ _ _ _ _ _ _ _ _ _ _ _ _ _ _ _ _ _ _ _ _ ?_
      intro ah ai aj ak al am ao ap aq A' c' w6 HP6;clear hbx hsx hs;have y0:=HP6.out.box.c0;have y1:=HP6.out.box.c1;obtain⟨u0,u1,u2,u3⟩:=HP6.out.box4.all;have q12:decide ((12:Int)<(p.parts.length:Int)+(l.length:Int))=false:=by simp;omega
      have q13:decide (12<p.parts.length+l.length)=false:=by simp;omega
      have hne:¬(w.heap.size+1=g7):=by have:=HP6.out.le;omega
      have hne2:¬(g7=w.heap.size+1):=by have:=HP6.out.le;omega
      go_wp2_with fail;have hE:=zbo.put HP6.out.box4 (.slice A' (p.parts.length+l.length) c') true;have hb:=zbp HP6.out.low (g:=w.heap.size+1) (by omega) (.slice A' (p.parts.length+l.length) c') (.bool true)
      have hO:=Row.of_own (z4r (z4r HP6.out.own (p:=⟨w.heap.size+1,0,none⟩) HP6.out.ne4 (.slice A' (p.parts.length+l.length) c')) (p:=⟨w.heap.size+1,1,none⟩) HP6.out.ne4 (.bool true));generalize (w6.setCell ⟨w.heap.size+1,0,none⟩ (.slice A' (p.parts.length+l.length) c')).setCell ⟨w.heap.size+1,1,none⟩ (.bool true)=W8 at hE hb hO ⊢;obtain⟨-,-,c0,c1⟩:=hE.all;refine bodyPost_ret (v:=.tuple #[.agg #[.slice A' (p.parts.length+l.length) c',.bool true],.int .i64 0]) (by simp [results,Tryz.results219,go_sem,c0,c1]) rfl ⟨hb,A',c',rfl,fun x hx=>(HP6.out.own.lt x hx).1,?_⟩
      show Row W8 1 _ (p.parts++l).length _
      have e:(p.parts++l).length=p.parts.length+l.length:=List.length_append;rw[e] at hO ⊢;exact hO
end Go.Proofs.YtegeboijhifmcaaGreatDoor
