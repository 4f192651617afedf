/- A part of the proof. -/
import Derived.Test.YtegeboijhifmcaaGreatDoorMgw12
import Derived.Deep.CutBlock
set_option linter.unusedVariables false
set_option linter.unusedSimpArgs false
set_option maxHeartbeats 8000000
set_option maxRecDepth 100000
namespace Go.Proofs.YtegeboijhifmcaaGreatDoor
open Go.Proofs.Tryz
open Go.RowKit Go.Lib
open Go.Sort hiding Below
abbrev zaq:={ s:ByteArray // z2s s=true∧s.size≤1000000 }
instance:Inhabited zaq:=⟨⟨z5t,z5u,by unfold z5t;decide⟩⟩
def zaq.enc (x:zaq):Value:=.string x.1
def zaq.cmp (x y:zaq):Int:=z2u x.1 y.1
theorem zar:z5p zaq.cmp:=totP (f:=fun r:zaq=>r.1) fun r=>r.2.1
theorem zas (blk off size:Nat)(w:World):CmpReads prog 45 #[] zaq.enc zaq.cmp blk off size w:=
 fun m os dk _ x y=>(z41 x.1 y.1 (sortWorld zaq.enc w blk off m dk os) (by have:=x.2.2;omega) (by have:=y.2.2;omega)).mono fun e w' h=>h
theorem zat:∀ {l:List ByteArray},(∀ r∈l,z2s r=true∧r.size≤1000000)→∃ l':List zaq,l'.map (·.1)=l
 | [],_=>⟨[],rfl⟩
 | r :: l,h=>by
  obtain⟨l',rfl⟩:=zat fun x hx=>h x (List.mem_cons_of_mem _ hx);exact⟨⟨r,h r (List.mem_cons_self ..)⟩ :: l',rfl⟩
theorem zau (A:Option Addr)(c:Nat)(w:World):Calls prog 150 #[.slice A 0 c,.int .i64 0,.int .i64 0,.func (.func 45) #[] #[]] w fun e w'=>e=.returned (.tuple #[])∧w=w':=by
 go_enter func150,ntmps150;go_wp2
 refine wp_loop_rounds 1 ?_;rw[rounds_succ];go_wp2
 go_end0
 exact⟨rfl,rfl⟩
def SrEnd (w:World)(v:Value)(l:List ByteArray)(w':World):Prop:=∃ l':List ByteArray,l'.Perm l∧l'.Pairwise (fun a b=>¬ z2u b a<0)∧Row w' 1 v l.length (l'.map .string)∧w.grownBy w' v.ownBlock
def SrPost (w:World)(base:Nat)(v:Value)(l:List ByteArray)(e:Ending)(w':World):Prop:=
 e=.returned (.tuple #[])∧SrEnd w v l w'
theorem zav (l:List zaq)(v:Value)(base:Nat)(lim:Int)(w:World)(hown:w.ownsRow base 9 1 v l.length (l.map zaq.enc))(hl:l.length≤12)(h0:0<l.length):
  Calls prog 104 #[v,.int .i64 0,.int .i64 l.length,.int .i64 lim,.func (.func 45) #[] #[]] w (SrPost w base v (l.map (·.1))):=by
 obtain⟨g,cap,rfl⟩:=z0s hown h0;have hHold:Holds zaq.enc w g 0 l.toArray:=fun j hj=>by
  have hj':j<l.length:=by simpa using hj
  have h1:=zac hown (j:=j) (u:=zaq.enc l[j]) (by rw[List.getElem?_map,List.getElem?_eq_getElem hj'];rfl)
  rw[Nat.zero_add,getElem!_pos l.toArray j hj];exact⟨h1.1,h1.2.1⟩
 have H:=hd_ (Tryz.insertionSortCmpFunc_one zaq.enc (fun _=>rfl) zaq.cmp 45 #[] g 0 cap 0 l.length l.toArray w (fun args w=>by kernel_rfl) (zas g 0 _ w) hHold (Nat.zero_le _) (by simp) (by simp;omega))
 have HH:=hd_ hHold;have HO:=hd_ hown;have hs0:l.toArray.size=l.length:=by simp
 rw[hs0,show ((0:Nat):Int)=0 from rfl] at H;have hle:decide ((l.length:Int)≤12)=true:=by simp;omega
 have hle':decide (l.length≤12)=true:=by simp;omega
 clear hown hHold hs0;go_enter func104,ntmps104;go_wp2_with fail;go_loop [1,2] (fun a b=>a=.int .i64 0∧b=.int .i64 l.length) (fun _ _=>1)
 case atStart=>exact⟨rfl,rfl⟩
 case round =>
  obtain⟨rfl,rfl⟩:=hrel;go_wp2_with fail;refine H.out.mono ?_;rintro e w' ⟨rfl,n,rfl⟩;go_wp2_with fail;go_end0
  have hs0:l.toArray.size=l.length:=by simp
  obtain⟨k1,k2⟩:=Go.Sort.insertionSort_holds zar.swo l.toArray 0 l.length (Nat.zero_le _) (by rw[hs0];exact Nat.le_refl _)
  have hHn:=holds_putRow zaq.enc w g 0 l.toArray (Sort.insertionSort (ltOf zaq.cmp) l.toArray 0 l.length) HH.out k1.1;have hgrow:w.grownBy ((putRow zaq.enc w g 0 (Sort.insertionSort (ltOf zaq.cmp) l.toArray 0 l.length)).drewN n) (some g):=by
   refine⟨rfl,rfl,rfl,by show w.heap.size≤(putRow zaq.enc w g 0 _).heap.size;rw[size_putRow];exact Nat.le_refl _,fun k hk hne=>?_⟩
   show (w.heap.modify g _)[k]? = w.heap[k]?
   rw[Array.getElem?_modify,if_neg (fun e=>hne (by rw[e]))]
  have hlt:g<w.heap.size:=(HO.out.lt g rfl).2;generalize hd:Sort.insertionSort (ltOf zaq.cmp) l.toArray 0 l.length=d' at k1 k2 hHn hgrow;have hs:d'.size=l.length:=by rw[k1.1,hs0]
  refine⟨rfl,(d'.toList).map (·.1),?_,?_,?_,hgrow⟩
  ·refine List.Perm.map _ ?_;have:=k1.2.2;rw[← hs,Array.extract_size,hs,← hs0,Array.extract_size] at this;simpa using this
  ·rw[List.pairwise_map,List.pairwise_iff_getElem];intro i j hi hj hij;have hi':i<d'.size:=by simpa using hi
   have hj':j<d'.size:=by simpa using hj
   have:=k2 i j (Nat.zero_le _) hij (by omega)
   rw[getElem!_pos d' j hj',getElem!_pos d' i hi'] at this;have h3:=of_decide_eq_false (show decide (z2u d'[j].1 d'[i].1<0)=false from this);simpa using h3
  ·rw[List.length_map];obtain⟨A',c',e,h1,h2,-⟩:=Row.of_own HO.out;injection e with e1 e2 e3
   subst e3;refine⟨_,_,rfl,h1,h2,by simp [hs],fun h=>(by cases h),fun _=>⟨_,rfl,Nat.lt_of_lt_of_le hlt hgrow.size,fun j u hu=>?_⟩⟩
   have hadd:(⟨g,0,none⟩:Addr).add j=⟨g,j,none⟩:=by unfold Addr.add;split <;> simp_all
   rw[hadd];rw[List.map_map,List.getElem?_map,Option.map_eq_some_iff] at hu;obtain⟨x,hx,rfl⟩:=hu;rw[List.getElem?_eq_some_iff] at hx;obtain⟨hj,hx⟩:=hx;have hj':j<d'.size:=by simpa using hj
   have:=(hHn j hj').1;rw[Nat.zero_add,getElem!_pos d' j hj'] at this;have hx':d'[j]=x:=by simpa using hx
   rw[hx'] at this;exact this
theorem zaw (A:Option Addr)(c:Nat)(lim:Int)(w:World):
  Calls prog 104 #[.slice A 0 c,.int .i64 0,.int .i64 0,.int .i64 lim,.func (.func 45) #[] #[]] w fun e w'=>e=.returned (.tuple #[])∧w=w':=by
 have H:=hd_ (zau A c w);go_enter func104,ntmps104;go_wp2_with fail;go_loop [1,2] (fun a b=>a=.int .i64 0∧b=.int .i64 0) (fun _ _=>1)
 case atStart=>exact⟨rfl,rfl⟩
 case round =>
  obtain⟨rfl,rfl⟩:=hrel;go_wp2_with fail;refine H.out.mono ?_;rintro e w' ⟨rfl,rfl⟩;go_wp2_with fail;exact bodyPost_ret (v:=.tuple #[]) (by simp [results,results104,go_sem]) rfl ⟨rfl,rfl⟩
theorem zax (l:List ByteArray)(v:Value)(base:Nat)(w:World)(hown:w.ownsRow base 9 1 v l.length (l.map .string))(hl:l.length≤12)(hv:∀ x∈l,z2s x=true∧x.size≤1000000):
  Calls prog 68 #[v,.func (.func 45) #[] #[]] w (SrPost w base v l):=by
 obtain⟨A,c,rfl⟩:=z0o hown;have HL:=hd_ (Tryz.bits_Len (l.length:Int) w (by omega) (by omega))
 have hw:IntKind.u64.wrap (l.length:Int)=(l.length:Int):=by simp [IntKind.wrap,IntKind.bits,IntKind.signed];omega
 by_cases h0:l.length=0
 ·have hl0:l=[]:=List.eq_nil_of_length_eq_zero h0;subst hl0;have H:=hd_ (fun lim=>zaw A c lim w);have HO:=hd_ hown;clear hown hv;go_enter func68,ntmps68;go_wp2_with fail;refine HL.out.mono ?_;rintro e w' ⟨rfl,rfl⟩;go_wp2_with fail;refine (H.out _).mono ?_;rintro e w' ⟨rfl,rfl⟩;go_wp2_with fail;go_end0
  exact⟨rfl,[],List.Perm.refl _,List.Pairwise.nil,Row.of_own HO.out,⟨rfl,rfl,rfl,Nat.le_refl _,fun _ _ _=>rfl⟩⟩
 ·obtain⟨l',rfl⟩:=zat hv;rw[List.length_map] at h0 hl hw HL;have H:=hd_ (fun lim=>zav l' (.slice A (l'.map (·.1)).length c) base lim w (by rw[List.map_map] at hown;rw[List.length_map] at hown ⊢;exact hown) hl (by omega))
  rw[List.length_map] at H ⊢;clear hown hv;go_enter func68,ntmps68;go_wp2_with fail;refine HL.out.mono ?_;rintro e w' ⟨rfl,rfl⟩;go_wp2_with fail;refine (H.out _).mono ?_;rintro e w' ⟨rfl,h1⟩;have H1:=hd_ h1;clear h1;go_wp2_with fail;go_end0
  exact⟨rfl,H1.out⟩
open Go.RowKit
open Go.Sort (grow)
def addP (l:List ByteArray)(p:ByteArray):List ByteArray:=if p∈l then l else l++[p]
def zb1 (D:List Rev):List ByteArray:=D.foldl (fun l r=>addP l r.path) []
theorem zb2 (D:List Rev)(k:Nat)(hk:k<D.length):zb1 (D.take (k+1))=addP (zb1 (D.take k)) D[k].path:=by
 unfold zb1;rw[List.take_succ_eq_append_getElem hk,List.foldl_append];rfl
theorem zb3 {l:List ByteArray}{p q:ByteArray}:q∈addP l p↔q∈l∨q=p:=by
 unfold addP;split
 ·rename_i h
  exact⟨.inl,fun h2=>h2.elim id fun e=>e ▸ h⟩
 ·simp
theorem zb4 (D:List Rev){q:ByteArray}:q∈zb1 D↔∃ r∈D,r.path=q:=by
 suffices h:∀(D:List Rev) (l:List ByteArray),q∈D.foldl (fun l r=>addP l r.path) l↔q∈l∨∃ r∈D,r.path=q by
  unfold zb1;rw[h];simp
 intro D;induction D with
 | nil=>intro l;simp
 | cons r D ih =>
  intro l;rw[List.foldl_cons,ih,zb3];constructor
  ·rintro ((h | h) | ⟨x,hx,h⟩)
   ·exact .inl h
   ·exact .inr ⟨r,List.mem_cons_self ..,h.symm⟩
   ·exact .inr ⟨x,List.mem_cons_of_mem _ hx,h⟩
  ·rintro (h | ⟨x,hx,h⟩)
   ·exact .inl (.inl h)
   ·rcases List.mem_cons.1 hx with rfl | hx
    ·exact .inl (.inr h.symm)
    ·exact .inr ⟨x,hx,h⟩
theorem zb5 (D:List Rev):(zb1 D).Nodup:=by
 suffices h:∀(D:List Rev) (l:List ByteArray),l.Nodup→(D.foldl (fun l r=>addP l r.path) l).Nodup from h D [] List.nodup_nil
 intro D;induction D with
 | nil=>intro l hl;exact hl
 | cons r D ih =>
  intro l hl;rw[List.foldl_cons];refine ih _ ?_;unfold addP;split
  ·exact hl
  ·rename_i h
   exact List.nodup_append.2 ⟨hl,by simp,fun a ha b hb=>by rw[List.mem_singleton] at hb;subst hb;exact fun e=>h (by rw[← e];exact ha)⟩
theorem zb6 {α:Type}[DecidableEq α]:∀ {l B:List α},l.Nodup→(∀ x∈l,x∈B)→l.length≤B.length
 | [],B,_,_=>Nat.zero_le _
 | a :: l,B,hn,hs=>by
  have h1:=List.nodup_cons.1 hn;have ha:=hs a (List.mem_cons_self ..);have:=zb6 (B:=B.erase a) h1.2 fun x hx=>(List.mem_erase_of_ne (fun e=>h1.1 (by rw[← e];exact hx))).2 (hs x (List.mem_cons_of_mem _ hx))
  rw[List.length_erase_of_mem ha] at this;have hp:=List.length_pos_of_mem ha;rw[List.length_cons];omega
theorem zb7 {D:List Rev}{B:List ByteArray}(h:∀ r∈D,r.path∈B):(zb1 D).length≤B.length:=zb6 (zb5 D) fun q hq=>by
 obtain⟨r,hr,rfl⟩:=(zb4 D).1 hq;exact h r hr
theorem zb8 {l l':List ByteArray}(hp:l'.Perm l)(hs:l'.Pairwise (fun a b=>¬ z2u b a<0))(hn:l.Nodup)(hv:∀ x∈l,z2s x=true):z5x (fun q:ByteArray=>q) l':=by
 have hn':l'.Pairwise (·≠·):=(hp.nodup_iff).2 hn;have hv':∀ x∈l',z2s x=true:=fun x hx=>hv x (hp.mem_iff.1 hx);have h2:=List.pairwise_and_iff.2 ⟨hs,hn'⟩;unfold z5x;refine (List.Pairwise.imp_of_mem ?_ h2);intro a b ha hb ⟨h3,h4⟩
 rw[z5q] at h3;have h5:z2u a b≠0:=fun e=>h4 (z5r (hv' a ha) (hv' b hb) e);show z2u a b<0
 omega
structure zb9 (w wr:World)(v:Value)(l:List ByteArray):Prop where
 low:Below w.heap.size w wr
 map:z2f Value.string z4i wr (w.heap.size+1) (z4h l)
 own:wr.ownsRow (w.heap.size+1+1) 9 1 v l.length (l.map .string)
theorem zb9.under {w wr wx:World}{v:Value}{l:List ByteArray}(h:zb9 w wr v l)(hb:Below wr.heap.size wr wx):zb9 w wx v l:=⟨z0r h.low hb,h.map.below hb,z0n h.own hb⟩
theorem zb9.upd {w wr w3:World}{v:Value}{l:List ByteArray}{f:ByteArray→Option Unit}(h:zb9 w wr v l)(hM:z2f Value.string z4i w3 (w.heap.size+1) f)(hg:wr.grownBy w3 (some (w.heap.size+1))):
  Below w.heap.size w w3∧w3.ownsRow (w.heap.size+1+1) 9 1 v l.length (l.map .string):=
 ⟨h.low.grown hg h.low.size (fun k e=>by injection e with e;omega),z4q h.own hg (fun x e e2=>by injection e2 with e2;have:=(h.own.lt x e).1;omega)⟩
theorem zba (p:ByteArray)(l:List ByteArray):z4h (l++[p])=upd (z4h l) p ():=by
 rw[← z4j];funext x
 unfold z4h;by_cases h:x∈l++[p]
 ·rw[if_pos h,if_pos (by simp at h ⊢;exact h.symm)]
 ·rw[if_neg h,if_neg (by simp at h ⊢;exact⟨h.2,h.1⟩)]
theorem zbb (D:List Rev)(B:List ByteArray)(dv dr:Value)(w:World)(hR:z45 w dv D)(hl:D.length≤1000000)(hB:∀ r∈D,r.path∈B)(hB12:B.length≤12)(hBv:∀ x∈B,z2s x=true∧x.size≤1000000):
  Calls prog 41 #[.agg #[dv,dr]] w fun e w'=>∃ v l,e=.returned v∧Below w.heap.size w w'∧Strs w' v l∧z5x (fun q:ByteArray=>q) l∧∀ q,q∈l↔∃ r∈D,r.path=q:=by
 obtain⟨Ar,cr,rfl,-⟩:=id hR;have hBox:=z0l w [.slice Ar D.length cr,dr] 26;have hA:Below w.heap.size w (w.alloc (.cells #[.slice Ar D.length cr,dr] 26)):=(Below.refl _ _).alloc (Nat.le_refl _) _;have hs1:(w.alloc (.cells #[.slice Ar D.length cr,dr] 26)).heap.size=w.heap.size+1:=by simp
 have hmm:=@run_makeMap prog;have HR:=hd_ hR;have HB:=hd_ hB;have HBV:=hd_ hBv;have HLL:Hid (∀ k,(zb1 (D.take k)).length≤12):=hd_ (fun k=>Nat.le_trans (zb7 (B:=B) fun r hr=>hB r (List.mem_of_mem_take hr)) hB12);have HTK:=hd_ (zb2 D);clear hR hB hBv hB12;go_enter func41,ntmps41;go_upto_region 1 with fail;generalize w.alloc (.cells #[.slice Ar D.length cr,dr] 26)=W1 at hBox hA hs1 ⊢;have HS0:Hid (zb9 w (W1.alloc (.map #[] 0)) (.slice none 0 0) []):=hd_ (by
  refine⟨hA.alloc hA.size _,?_,World.ownsRow_nil _ _ _ _⟩;have:=z2f.new Value.string z4i W1;rw[hs1] at this;exact this)
 have d0:(W1.alloc (.map #[] 0)).cell? ⟨w.heap.size,0,none⟩=some (.slice Ar D.length cr):=(hBox.alloc _).cell 0;have HS1:=hd_ hs1;clear hBox hA hs1;go_upto_region 3 with fail;rw[HS1.out];generalize W1.alloc (.map #[] 0)=W2 at HS0 d0 ⊢;clear hmm;go_wp2_with fail;go_loopw [4,13] (fun lv i wr=>∃(k n:Nat) (A:Option Addr) (c:Nat),lv=.slice A n c∧i=.int .i64 k∧k≤D.length∧Hid (n=(zb1 (D.take k)).length∧zb9 w wr (.slice A n c) (zb1 (D.take k)))) (fun _ i _=>D.length - (intOf i).toNat)
 case atStart=>exact⟨0,0,none,0,rfl,rfl,Nat.zero_le _,hd_ ⟨rfl,HS0.out⟩⟩
 case round =>
  obtain⟨k,n,A,c,rfl,rfl,hk,HI⟩:=hrel;clear d0;by_cases hlt:k<D.length
  ·obtain⟨ad,rfl,hab,hld⟩:=z45.at_ (HR.out.below HI.out.2.low) hlt;have HT:=hd_ (HTK.out k hlt);have hbv:=HBV.out _ (HB.out D[k] (List.getElem_mem hlt));have HL1:=hd_ (HLL.out (k+1));have HL0:=hd_ (HLL.out k);generalize D[k]=r at hld HT hbv;obtain⟨x0,x1,x2,x3,x4,x5,x6,x7,x8,x9,x10,x11⟩:=hld;have hX:=z0l wr [.string r.path,.int .i64 r.num,.int .i64 r.chg,.int .i64 r.act,.int .i64 r.ty.base,.bool r.ty.k,.bool r.ty.l,.bool r.ty.x,.int .u64 r.sum,.int .i64 r.size,.string r.frm,.int .i64 r.fnum] 66;have HX:Hid (zb9 w (wr.alloc (.cells #[.string r.path,.int .i64 r.num,.int .i64 r.chg,.int .i64 r.act,.int .i64 r.ty.base,.bool r.ty.k,.bool r.ty.l,.bool r.ty.x,.int .u64 r.sum,.int .i64 r.size,.string r.frm,.int .i64 r.fnum] 66)) (.slice A n c) (zb1 (D.take k))):=hd_ (HI.out.2.under ((Below.refl _ _).alloc (Nat.le_refl _) _));go_upto_region 6 with fail;clear x0 x1 x2 x3 x4 x5 x6 x7 x8 x9 x10 x11 hab;have hg6:w.heap.size+1<wr.heap.size:=HI.out.2.map.lt;generalize wr.alloc (.cells #[.string r.path,.int .i64 r.num,.int .i64 r.chg,.int .i64 r.act,.int .i64 r.ty.base,.bool r.ty.k,.bool r.ty.l,.bool r.ty.x,.int .u64 r.sum,.int .i64 r.size,.string r.frm,.int .i64 r.fnum] 66)=W6 at hX HX ⊢;generalize wr.heap.size=g6 at hX hg6 ⊢;have y0:W6.cell? ⟨g6,0,none⟩=some (.string r.path):=hX.cell 0;have HX6:=hd_ hX;have HN0:=hd_ HI.out.1;clear hX;generalize hll:zb1 (D.take k)=l at HX HT HL0 HN0;obtain⟨p,hpe⟩:∃ p,r.path=p:=⟨_,rfl⟩;rw[hpe] at y0 HT hbv;have HPE:=hd_ hpe;clear hpe;have HLK:=hd_ hlt;have hlk:=z2f.lookup (w:=W6) HX.out.map (z2d underlying9) underlying80 (z:=.agg #[]) (by rfl) p true
   clear hll HI;by_cases hin:p∈l
   ·have hv:z2h z4i (.agg #[]) true (z4h l p)=.tuple #[.agg #[],.bool true]:=by unfold z4h;rw[if_pos hin];rfl
    rw[hv] at hlk;have HT2:Hid (zb1 (D.take (k+1))=l):=hd_ (by rw[HT.out];exact if_pos hin)
    clear hin hv;go_wp2_with fail;go_roundw
    case rel=>exact⟨k+1,n,A,c,rfl,by go_num,by omega,hd_ ⟨by rw[HT2.out];exact HN0.out,by rw[HT2.out];exact HX.out.under ((Below.refl _ _).alloc (Nat.le_refl _) _)⟩⟩
    case measure=>simp [intOf];omega
   ·have hv:z2h z4i (.agg #[]) true (z4h l p)=.tuple #[.agg #[],.bool false]:=by unfold z4h;rw[if_neg hin];rfl
    rw[hv] at hlk;have HT2:Hid (zb1 (D.take (k+1))=l++[p]):=hd_ (by rw[HT.out];exact if_neg hin)
    have HVA:=hd_ (fun X=>zb0 p true hbv.1 X (by have:=hbv.2;omega))
    clear hin hv;have HX7:=hd_ (HX.out.under ((Below.refl W6.heap.size W6).alloc (Nat.le_refl _) (.cells #[] 106)));have hX7:=HX6.out.alloc (.cells #[] 106);have y7:(W6.alloc (.cells #[] 106)).cell? ⟨g6,0,none⟩=some (.string p):=by rw[← HPE.out];exact hX7.cell 0
    obtain⟨w3,hup,hM3,hg3,-⟩:=z2f.update (w:=W6.alloc (.cells #[] 106)) HX7.out.map (z2d underlying9) underlying80 p ();have hup':(Instr.mapUpdate 80 (.map (some (w.heap.size+1))) (.string p) (.agg #[])).run prog (W6.alloc (.cells #[] 106))=.ok () w3:=hup;have y3:w3.cell? ⟨g6,0,none⟩=some (.string p):=by rw[← HPE.out];exact (hX7.grown hg3 (fun e=>by injection e with e;omega)).cell 0
    obtain⟨hlo,how⟩:=HX7.out.upd hM3 hg3;have hba:Below w3.heap.size w3 (w3.alloc (.cells #[.string p] 9)):=(Below.refl _ _).alloc (Nat.le_refl _) _;have hlo4:=z0r hlo hba;have how4:=z0n how hba;have hM4:=hM3.below hba;have hrow:=z0i w3 [.string p] 9 1 1 rfl (by decide) _ rfl
    have hsz:w.heap.size+1+1≤(w3.alloc (.cells #[.string p] 9)).heap.size:=by have:=hM4.lt;omega
    have HN1:=hd_ HN0.out;have hn12:n≤12:=by have h1:=HN0.out;have h2:=HL0.out;omega
    have hown:(w3.alloc (.cells #[.string p] 9)).ownsRow (w.heap.size+1+1) 9 1 (.slice A n c) n (l.map .string):=by rw[HN0.out] at how4 ⊢;exact how4
    have HLO:=hd_ hlo4;have HMA:=hd_ hM4;have HOW:=hd_ hown;clear hup hX7 hlo how hba hlo4 how4 hM4 hown hM3;go_wp2_with (first
     | (go_at_call 67;refine (HVA.out _).mono ?_;rintro e w' ⟨rfl,rfl⟩)
     | (at_builtin;refine z0j rfl rfl z87 HOW.out rfl hrow rfl (by simp [Value.oneCell']) (by omega) (by unfold maxLen;omega) hsz ?_;intro A' c' w9 hown hgr hob))
    have HP:Hid (zb9 w w9 (.slice A' (n+1) c') (l++[p])):=hd_ (by
     refine⟨HLO.out.grown hgr HLO.out.size (fun k e=>by have:=(HOW.out.lt k e).1;omega),?_,?_⟩
     ·rw[zba];exact HMA.out.grown hgr (fun e=>by have:=(HOW.out.lt _ e.symm).1;omega)
     ·rw[List.length_append,List.length_singleton,← HN1.out,List.map_append];exact hown)
    clear hown hgr hob;go_wp2_with fail;go_roundw
    case rel=>exact⟨k+1,n+1,A',c',rfl,by go_num,by omega,hd_ ⟨by rw[HT2.out,List.length_append,← HN1.out];rfl,by rw[HT2.out];exact HP.out⟩⟩
    case measure=>simp [intOf];omega
  ·have hke:k=D.length:=by omega
   subst hke;rw[List.take_length] at HI;have hge:¬((D.length:Int)<(D.length:Int)):=by omega
   have HLD:=hd_ (HLL.out D.length);rw[List.take_length] at HLD;have HSO:=hd_ (zax (zb1 D) (.slice A n c) (w.heap.size+1+1) wr HI.out.2.own HLD.out (fun x hx=>by
    obtain⟨r,hr,rfl⟩:=(zb4 D).1 hx;exact HBV.out _ (HB.out r hr)))
   go_wp2_with fail;refine HSO.out.mono ?_;rintro e w9 ⟨rfl,h9⟩;have H9:=hd_ h9;clear h9;go_wp2_with fail;go_ret;obtain⟨l',hp,hs,hr,hg⟩:=H9.out;refine⟨_,l',rfl,HI.out.2.low.grown hg HI.out.2.low.size (fun k e=>by have:=(HI.out.2.own.lt k e).1;omega),?_,zb8 hp hs (zb5 D) (fun x hx=>by
    obtain⟨r,hr,rfl⟩:=(zb4 D).1 hx;exact (HBV.out _ (HB.out r hr)).1),fun q=>by rw[hp.mem_iff];exact zb4 D⟩
   show Row w9 1 _ l'.length _
   rw[hp.length_eq];exact hr
def zff:List ByteArray:=[⟨#[47,47,100,47,97]⟩,⟨#[47,47,100,47,97,47,97]⟩,⟨#[47,47,100,47,98]⟩,⟨#[47,47,100,47,120,47,97]⟩,⟨#[47,47,100,47,120,47,98]⟩,⟨#[47,47,101,47,97]⟩]
theorem zfg:z5x (fun q:ByteArray=>q) zff:=by
 unfold z5x zff;simp only[List.pairwise_cons,List.mem_cons,List.not_mem_nil,or_false,forall_eq_or_imp,forall_eq]
 refine⟨⟨?_,?_,?_,?_,?_⟩,⟨?_,?_,?_,?_⟩,⟨?_,?_,?_⟩,⟨?_,?_⟩,?_,?_⟩ <;> first | decide +kernel | (intro a ha;cases ha) | exact⟨fun a h=>(by cases h),List.Pairwise.nil⟩
theorem zfh:∀ p∈zff,z3q p=true:=by decide +kernel
structure zfi (f:ByteArray→Option ByteArray):Prop where
 path:∀ p∈zff,∀ l,f p=some l→z3q l=true
 inj:∀ p∈zff,∀ q∈zff,∀ l,f p=some l→f q=some l→p=q
def zfj (D:List Rev)(f:ByteArray→Option ByteArray)(m:Int)(p:ByteArray):Option Hav:=
 match z30 D p (fun v:Rev=>decide (v.chg≤m)) with
 | none=>none
 | some r=>if z2v r.act then (f p).map (fun l=>⟨p,r.num,l⟩) else none
def zfk (D:List Rev)(f:ByteArray→Option ByteArray)(m:Int):List Hav:=zff.filterMap (zfj D f m)
theorem zfl {D:List Rev}{p:ByteArray}{t:Rev→Bool}{r:Rev}(h:z30 D p t=some r):r∈D∧r.path=p∧t r=true:=by
 unfold z30 at h;suffices H:∀(l:List Rev) (o:Option Rev),(∀ x,o=some x→x∈D∧x.path=p∧t x=true)→(∀ x∈l,x∈D)→∀ r,l.foldl (fun o r=>if r.path=p∧t r=true then (match o with | none=>some r | some b=>if b.num<r.num then some r else some b) else o) o=some r→r∈D∧r.path=p∧t r=true from
  H D none (fun x e=>by cases e) (fun x hx=>hx) r h
 intro l;induction l with
 | nil=>intro o ho _ r hr;exact ho r hr
 | cons a l ih =>
  intro o ho hl r hr;rw[List.foldl_cons] at hr;refine ih _ (fun x hx=>?_) (fun x hx=>hl x (List.mem_cons_of_mem _ hx)) r hr;split at hx
  ·rename_i hc
   have ha:a∈D∧a.path=p∧t a=true:=⟨hl a (List.mem_cons_self ..),hc.1,hc.2⟩;cases o with
   | none=>rw[← Option.some.inj hx];exact ha
   | some b =>
    simp only at hx
    split at hx
    ·rw[← Option.some.inj hx];exact ha
    ·rw[← Option.some.inj hx];exact ho b rfl
  ·exact ho x hx
theorem zfm {D:List Rev}{f:ByteArray→Option ByteArray}{m:Int}{p:ByteArray}{h:Hav}(e:zfj D f m p=some h):h.path=p∧f p=some h.loc∧∃ r∈D,r.path=p∧r.num=h.num∧z30 D p (fun v:Rev=>decide (v.chg≤m))=some r∧z2v r.act=true:=by
 unfold zfj at e;cases hg:z30 D p (fun v:Rev=>decide (v.chg≤m)) with
 | none=>rw[hg] at e;cases e
 | some r =>
  rw[hg] at e;simp only at e
  cases hl:z2v r.act with
  | false=>rw[hl] at e;cases e
  | true =>
   rw[hl,if_pos rfl,Option.map_eq_some_iff] at e;obtain⟨l,e1,e2⟩:=e;subst e2;obtain⟨m1,m2,-⟩:=zfl hg;exact⟨rfl,e1,r,m1,m2,rfl,rfl,hl⟩
theorem zfn {D:List Rev}{f:ByteArray→Option ByteArray}{m:Int}(hn:∀ r∈D,1≤r.num)(hf:zfi f):zf0 (zfk D f m):=by
 have hm:∀ x∈zfk D f m,∃ p∈zff,zfj D f m p=some x:=fun x hx=>List.mem_filterMap.1 hx;refine⟨?_,fun x hx=>?_,fun x hx y hy e=>?_⟩
 ·unfold zfk;have:∀ qs:List ByteArray,z5x (fun q:ByteArray=>q) qs→z6b (qs.filterMap (zfj D f m)):=by
   intro qs;induction qs with
   | nil=>intro _;exact List.Pairwise.nil
   | cons q qs ih =>
    intro hq;rw[List.filterMap_cons];split
    ·exact ih hq.tail
    ·rename_i x hx
     refine List.pairwise_cons.2 ⟨fun b hb=>?_,ih hq.tail⟩;obtain⟨p,hp,e⟩:=List.mem_filterMap.1 hb;rw[(zfm hx).1,(zfm e).1];exact hq.head p hp
  exact this _ zfg
 ·obtain⟨p,hp,e⟩:=hm x hx;obtain⟨e1,e2,r,r1,r2,r3,-⟩:=zfm e;unfold Hav.okB;rw[e1,zfh p hp,hf.path p hp _ e2];have:=hn r r1;simp
  omega
 ·obtain⟨p,hp,e1⟩:=hm x hx;obtain⟨q,hq,e2⟩:=hm y hy;obtain⟨a1,a2,-⟩:=zfm e1;obtain⟨b1,b2,-⟩:=zfm e2;rw[a1,b1];rw[e] at a2;exact hf.inj p hp q hq _ a2 b2
theorem zfo {D:List Rev}{f:ByteArray→Option ByteArray}{m:Int}:∀ x∈zfk D f m,x.path∈zff:=fun x hx=>by
 obtain⟨p,hp,e⟩:=List.mem_filterMap.1 hx;rw[(zfm e).1];exact hp
theorem zfp {D:List Rev}{f:ByteArray→Option ByteArray}{m:Int}:(zfk D f m).length≤6:=by
 unfold zfk;exact Nat.le_trans (List.length_filterMap_le ..) (by decide)
def c_ (t:List UInt8):ByteArray:=⟨([47,47,99,47]++t).toArray⟩
def w_ (t:List UInt8):ByteArray:=⟨([47,47,119,47]++t).toArray⟩
def fwdT:Nat→List (Option ByteArray)
 | 0=>[some (c_ [97]),some (c_ [97,47,97]),some (c_ [98]),some (c_ [120,47,97]),some (c_ [120,47,98]),none]
 | 1=>[some (c_ [97]),some (c_ [97,47,97]),some (c_ [98]),none,none,none]
 | 2=>[none,none,none,some (c_ [97]),some (c_ [98]),some (w_ [97])]
 | 3=>[some (c_ [98]),none,some (c_ [97]),some (c_ [120,47,97]),some (c_ [120,47,98]),none]
 | 4=>[some (c_ [97]),none,some (c_ [98]),none,none,some (c_ [101])]
 | 5=>[none,some (w_ [97,47,122]),none,some (w_ [120,47,122]),none,some (c_ [97])]
 | 6=>[some (c_ [97]),some (c_ [97,47,97]),some (c_ [98]),some (c_ [120,47,97]),some (c_ [120,47,98]),some (w_ [97])]
 | _=>[none,none,none,none,none,none]
def zfq (k:Nat)(p:ByteArray):Option ByteArray:=((zff.zip (fwdT k)).find? (fun x=>decide (x.1=p))).bind (·.2)
theorem zfr (k:Nat):zfi (zfq k):=by
 have h:∀ k<8,(∀ p∈zff,∀ l,zfq k p=some l→z3q l=true)∧∀ p∈zff,∀ q∈zff,(zfq k p).isSome=true→zfq k p=zfq k q→p=q:=by
  have a:∀ k<8,∀ p∈zff,((zfq k p).map z3q).getD true=true:=by decide +kernel
  have b:∀ k<8,∀ p∈zff,∀ q∈zff,(zfq k p).isSome=true→zfq k p=zfq k q→p=q:=by decide +kernel
  exact fun k hk=>⟨fun p hp l e=>by have:=a k hk p hp;rw[e] at this;exact this,b k hk⟩
 by_cases hk:k<8
 ·exact⟨(h k hk).1,fun p hp q hq l e1 e2=>(h k hk).2 p hp q hq (by rw[e1];rfl) (e1.trans e2.symm)⟩
 ·have e:fwdT k=fwdT 7:=by
   match k,hk with
   | k+8,_=>rfl
   | 0,hk=>exact absurd (by decide) hk
   | 1,hk=>exact absurd (by decide) hk
   | 2,hk=>exact absurd (by decide) hk
   | 3,hk=>exact absurd (by decide) hk
   | 4,hk=>exact absurd (by decide) hk
   | 5,hk=>exact absurd (by decide) hk
   | 6,hk=>exact absurd (by decide) hk
   | 7,hk=>exact absurd (by decide) hk
  have e2:zfq k=zfq 7:=by funext p;unfold zfq;rw[e]
  rw[e2];exact⟨(h 7 (by decide)).1,fun p hp q hq l e1 e2=>(h 7 (by decide)).2 p hp q hq (by rw[e1];rfl) (e1.trans e2.symm)⟩
theorem zhr (a b:Ty)(W:World):(binOp .neq 61 (.agg #[.int .i64 a.base,.bool a.k,.bool a.l,.bool a.x]) (.agg #[.int .i64 b.base,.bool b.k,.bool b.l,.bool b.x])).run prog W=.ok (.bool (!decide (a=b))) W:=by
 obtain⟨a0,a1,a2,a3⟩:=a;obtain⟨b0,b1,b2,b3⟩:=b;rw[run_neq_struct,run_equalIn_agg W 9999 61 _ _ (by kernel_rfl) (by kernel_rfl)]
 simp [go_sem,Op.eqFields]
 by_cases h1:a0=b0 <;> by_cases h2:a1=b1 <;> by_cases h3:a2=b2 <;> by_cases h4:a3=b3 <;> simp [h1,h2,h3,h4]
theorem zhs (a b c d:Int)(W:World):(binOp .neq 64 (.agg #[.int .u64 a,.int .i64 b]) (.agg #[.int .u64 c,.int .i64 d])).run prog W=.ok (.bool (!(decide (a=c) && decide (b=d)))) W:=by
 rw[run_neq_struct,run_equalIn_agg W 9999 64 _ _ (by kernel_rfl) (by kernel_rfl)]
 simp [go_sem,Op.eqFields]
 by_cases h1:a=c <;> by_cases h2:b=d <;> simp [h1,h2]
theorem zht (f:ByteArray→Option Rev)(x:Edt)(g:Nat)(dv dr ev rv:Value)(n:Int)(cl tx:ByteArray)(bl be bn:Nat)(w:World)(hk:Chk w g dv dr n cl tx ev rv bl be bn)(hL:z7r w bl f)
  (h1:0≤(z2x f x.path).num) (h2:(z2x f x.path).num≤1000000):
  Calls prog 76 #[.pointer (some ⟨g,0,none⟩),.agg #[.string x.path,.int .i64 x.act,.int .i64 x.ty.base,.bool x.ty.k,.bool x.ty.l,.bool x.ty.x,.int .u64 x.sum,.int .i64 x.size,.int .i64 x.base,.string x.frm,.int .i64 x.fnum,.int .i64 x.fence]] w
   fun e w'=>e=.returned (.agg #[.string (z2z f n x).path,.int .i64 (z2z f n x).num,.int .i64 (z2z f n x).chg,.int .i64 (z2z f n x).act,.int .i64 (z2z f n x).ty.base,.bool (z2z f n x).ty.k,.bool (z2z f n x).ty.l,.bool (z2z f n x).ty.x,.int .u64 (z2z f n x).sum,.int .i64 (z2z f n x).size,.string (z2z f n x).frm,.int .i64 (z2z f n x).fnum])∧Below w.heap.size w w':=by
 obtain⟨W,hW⟩:∃ W,W=(w.alloc (.cells #[.string x.path,.int .i64 x.act,.int .i64 x.ty.base,.bool x.ty.k,.bool x.ty.l,.bool x.ty.x,.int .u64 x.sum,.int .i64 x.size,.int .i64 x.base,.string x.frm,.int .i64 x.fnum,.int .i64 x.fence] 90)).alloc (.cells #[.string ⟨#[]⟩,.int .i64 0,.int .i64 0,.int .i64 0,.int .i64 0,.bool false,.bool false,.bool false,.int .u64 0,.int .i64 0,.string ⟨#[]⟩,.int .i64 0] 66):=⟨_,rfl⟩;have hbW:Below w.heap.size w W:=by rw[hW];exact ((Below.refl _ _).alloc (Nat.le_refl _) _).alloc (by simp) _
 have hX:Blk W w.heap.size 90 [.string x.path,.int .i64 x.act,.int .i64 x.ty.base,.bool x.ty.k,.bool x.ty.l,.bool x.ty.x,.int .u64 x.sum,.int .i64 x.size,.int .i64 x.base,.string x.frm,.int .i64 x.fnum,.int .i64 x.fence]:=by rw[hW];exact (z0l w _ _).alloc _
 have hZ:Blk W (w.heap.size+1) 66 [.string ⟨#[]⟩,.int .i64 0,.int .i64 0,.int .i64 0,.int .i64 0,.bool false,.bool false,.bool false,.int .u64 0,.int .i64 0,.string ⟨#[]⟩,.int .i64 0]:=by
  rw[hW];have:=z0l (w.alloc (.cells #[.string x.path,.int .i64 x.act,.int .i64 x.ty.base,.bool x.ty.k,.bool x.ty.l,.bool x.ty.x,.int .u64 x.sum,.int .i64 x.size,.int .i64 x.base,.string x.frm,.int .i64 x.fnum,.int .i64 x.fence] 90)) [.string ⟨#[]⟩,.int .i64 0,.int .i64 0,.int .i64 0,.int .i64 0,.bool false,.bool false,.bool false,.int .u64 0,.int .i64 0,.string ⟨#[]⟩,.int .i64 0] 66;simpa using this
 have hK:Chk W g dv dr n cl tx ev rv bl be bn:=Blk.below hk hbW (Blk.lt hk);have hlk:=z7r.look (w:=W.drew) (z2f.below hL hbW.drew) x.path;obtain⟨-,-,k2,-,-,k7,-,-⟩:=z4a hK;have HW:=hd_ hW;have HM:Hid (z2z f n x=⟨x.path,(z2x f x.path).num+1,n,x.act,x.ty,x.sum,x.size,x.frm,x.fnum⟩):=hd_ rfl;clear hW hK;generalize z2x f x.path=r at hlk HM h1 h2;generalize z2z f n x=m at HM ⊢;obtain⟨c0,c1,c2,c3,c4,c5,c6,c7,c8,c9,c10,c11⟩:=z7z hX;go_enter func76,ntmps76;go_wp2_with fail;rw[← HW.out];have hwr:IntKind.i64.wrap (r.num+1)=r.num+1:=IntWalk.i64_in _ (by omega)
 have hfl:∀ w,(Instr.field 66 (.agg #[.string r.path,.int .i64 r.num,.int .i64 r.chg,.int .i64 r.act,.int .i64 r.ty.base,.bool r.ty.k,.bool r.ty.l,.bool r.ty.x,.int .u64 r.sum,.int .i64 r.size,.string r.frm,.int .i64 r.fnum]) 1).run prog w=.ok (.int .i64 r.num) w:=fun w=>by kernel_rfl
 go_still_tail 27,(by kernel_rfl)
 change wpList _ _ _ _ _ W.drew;clear hwr hfl hlk c0 c1 c2 c3 c4 c5 c6 c7 c8 c9 c10 c11 k2 k7;have hB2:Below w.heap.size w W.drew:=hbW.drew;have hZ2:Blk W.drew (w.heap.size+1) 66 [.string ⟨#[]⟩,.int .i64 0,.int .i64 0,.int .i64 0,.int .i64 0,.bool false,.bool false,.bool false,.int .u64 0,.int .i64 0,.string ⟨#[]⟩,.int .i64 0]:=hZ;generalize W.drew=W2 at hB2 hZ2 ⊢;obtain⟨z0,z1,z2,z3,z4,z5,z6,z7,z8,z9,z10,z11⟩:=z7z hZ2;obtain⟨y0,y1,y2,y3,y4,y5,y6,y7,y8,y9,y10,y11⟩:=zdz hZ2;go_wp2_with fail;have hZ3:=ze0 hZ2 ⟨x.path,r.num+1,n,x.act,x.ty,x.sum,x.size,x.frm,x.fnum⟩;have hB3:=ze1 hB2 (show w.heap.size≤w.heap.size+1 by omega) ⟨x.path,r.num+1,n,x.act,x.ty,x.sum,x.size,x.frm,x.fnum⟩
 rw[← HM.out] at hZ3 hB3;have e:((((((((((((W2.setCell ⟨w.heap.size+1,0,none⟩ (.string m.path)).setCell ⟨w.heap.size+1,1,none⟩ (.int .i64 m.num)).setCell ⟨w.heap.size+1,2,none⟩ (.int .i64 m.chg)).setCell ⟨w.heap.size+1,3,none⟩ (.int .i64 m.act)).setCell ⟨w.heap.size+1,4,none⟩ (.int .i64 m.ty.base)).setCell ⟨w.heap.size+1,5,none⟩ (.bool m.ty.k)).setCell ⟨w.heap.size+1,6,none⟩ (.bool m.ty.l)).setCell ⟨w.heap.size+1,7,none⟩ (.bool m.ty.x)).setCell ⟨w.heap.size+1,8,none⟩ (.int .u64 m.sum)).setCell ⟨w.heap.size+1,9,none⟩ (.int .i64 m.size)).setCell ⟨w.heap.size+1,10,none⟩ (.string m.frm)).setCell ⟨w.heap.size+1,11,none⟩ (.int .i64 m.fnum))=((((((((((((W2.setCell ⟨w.heap.size+1,0,none⟩ (.string ((⟨x.path,r.num+1,n,x.act,x.ty,x.sum,x.size,x.frm,x.fnum⟩:Rev)).path)).setCell ⟨w.heap.size+1,1,none⟩ (.int .i64 ((⟨x.path,r.num+1,n,x.act,x.ty,x.sum,x.size,x.frm,x.fnum⟩:Rev)).num)).setCell ⟨w.heap.size+1,2,none⟩ (.int .i64 ((⟨x.path,r.num+1,n,x.act,x.ty,x.sum,x.size,x.frm,x.fnum⟩:Rev)).chg)).setCell ⟨w.heap.size+1,3,none⟩ (.int .i64 ((⟨x.path,r.num+1,n,x.act,x.ty,x.sum,x.size,x.frm,x.fnum⟩:Rev)).act)).setCell ⟨w.heap.size+1,4,none⟩ (.int .i64 ((⟨x.path,r.num+1,n,x.act,x.ty,x.sum,x.size,x.frm,x.fnum⟩:Rev)).ty.base)).setCell ⟨w.heap.size+1,5,none⟩ (.bool ((⟨x.path,r.num+1,n,x.act,x.ty,x.sum,x.size,x.frm,x.fnum⟩:Rev)).ty.k)).setCell ⟨w.heap.size+1,6,none⟩ (.bool ((⟨x.path,r.num+1,n,x.act,x.ty,x.sum,x.size,x.frm,x.fnum⟩:Rev)).ty.l)).setCell ⟨w.heap.size+1,7,none⟩ (.bool ((⟨x.path,r.num+1,n,x.act,x.ty,x.sum,x.size,x.frm,x.fnum⟩:Rev)).ty.x)).setCell ⟨w.heap.size+1,8,none⟩ (.int .u64 ((⟨x.path,r.num+1,n,x.act,x.ty,x.sum,x.size,x.frm,x.fnum⟩:Rev)).sum)).setCell ⟨w.heap.size+1,9,none⟩ (.int .i64 ((⟨x.path,r.num+1,n,x.act,x.ty,x.sum,x.size,x.frm,x.fnum⟩:Rev)).size)).setCell ⟨w.heap.size+1,10,none⟩ (.string ((⟨x.path,r.num+1,n,x.act,x.ty,x.sum,x.size,x.frm,x.fnum⟩:Rev)).frm)).setCell ⟨w.heap.size+1,11,none⟩ (.int .i64 ((⟨x.path,r.num+1,n,x.act,x.ty,x.sum,x.size,x.frm,x.fnum⟩:Rev)).fnum)):=by rw[HM.out]
 dsimp only at e
 rw[← e];generalize ((((((((((((W2.setCell ⟨w.heap.size+1,0,none⟩ (.string m.path)).setCell ⟨w.heap.size+1,1,none⟩ (.int .i64 m.num)).setCell ⟨w.heap.size+1,2,none⟩ (.int .i64 m.chg)).setCell ⟨w.heap.size+1,3,none⟩ (.int .i64 m.act)).setCell ⟨w.heap.size+1,4,none⟩ (.int .i64 m.ty.base)).setCell ⟨w.heap.size+1,5,none⟩ (.bool m.ty.k)).setCell ⟨w.heap.size+1,6,none⟩ (.bool m.ty.l)).setCell ⟨w.heap.size+1,7,none⟩ (.bool m.ty.x)).setCell ⟨w.heap.size+1,8,none⟩ (.int .u64 m.sum)).setCell ⟨w.heap.size+1,9,none⟩ (.int .i64 m.size)).setCell ⟨w.heap.size+1,10,none⟩ (.string m.frm)).setCell ⟨w.heap.size+1,11,none⟩ (.int .i64 m.fnum))=W3 at hZ3 hB3 ⊢;obtain⟨e0,e1,e2,e3,e4,e5,e6,e7,e8,e9,e10,e11⟩:=z7z hZ3;refine bodyPost_ret (v:=.agg #[.string m.path,.int .i64 m.num,.int .i64 m.chg,.int .i64 m.act,.int .i64 m.ty.base,.bool m.ty.k,.bool m.ty.l,.bool m.ty.x,.int .u64 m.sum,.int .i64 m.size,.string m.frm,.int .i64 m.fnum]) (by simp [results,results76,go_sem,e0,e1,e2,e3,e4,e5,e6,e7,e8,e9,e10,e11]) rfl ⟨rfl,hB3⟩
def zjy (w:World)(B:Nat)(l:List ByteArray):Prop:=z2f Value.string z4i w B (z4h l)
theorem zjz (l:List ByteArray)(v:Value)(w:World)(hl:Strs w v l)(hn:l.length≤1000000):
  Calls prog 35 #[v] w fun e w'=>e=.returned (.map (some w.heap.size))∧zjy w' w.heap.size l∧Below w.heap.size w w':=by
 obtain⟨A,c,rfl,-⟩:=id hl;have hmk:=fun X=>z2e (P:=prog) 80 9 106 .i64 (l.length:Int) underlying80 X;have HL:=hd_ hl;have HM0:Hid (zjy (w.alloc (.map #[] 0)) w.heap.size []∧Below w.heap.size w (w.alloc (.map #[] 0))):=hd_ ⟨z2f.new Value.string z4i w,(Below.refl _ _).alloc (Nat.le_refl _) _⟩;clear hl;go_enter func35,ntmps35;go_upto_region 2 with fail;generalize w.alloc (.map #[] 0)=W1 at HM0 ⊢;clear hmk;go_wp2_with fail;go_loopw [11] (fun i wr=>∃ k:Nat,i=.int .i64 k∧k≤l.length∧Hid (zjy wr w.heap.size (l.take k)∧Below w.heap.size w wr)) (fun i _=>l.length - (intOf i).toNat)
 case atStart=>exact⟨0,rfl,Nat.zero_le _,HM0⟩
 case round =>
  obtain⟨k,rfl,hk,HI⟩:=hrel;by_cases hlt:k<l.length
  ·obtain⟨ad,rfl,hab,s0⟩:=Strs.at_ (HL.out.below HI.out.2) hlt;have HT:Hid (l.take (k+1)=l.take k++[l[k]]):=hd_ (List.take_succ_eq_append_getElem hlt);generalize l[k]=p at s0 HT;have hX:Below wr.heap.size wr wr:=Below.refl _ _;obtain⟨w3,hup,hM3,hg3,-⟩:=z2f.update (w:=wr) HI.out.1 (z2d underlying9) underlying80 p ();have hup':(Instr.mapUpdate 80 (.map (some w.heap.size)) (.string p) (.agg #[])).run prog wr=.ok () w3:=hup;have HN:Hid (zjy w3 w.heap.size (l.take (k+1))∧Below w.heap.size w w3):=hd_ ⟨by unfold zjy;rw[HT.out,zba];exact hM3,HI.out.2.grown hg3 HI.out.2.size (fun k e=>by injection e with e;omega)⟩
   have HLT:=hd_ hlt;clear hab hup hM3 hg3 hX;go_wp2_with fail;go_roundw
   case rel=>exact⟨k+1,by go_num,by omega,HN⟩
   case measure=>simp [intOf];omega
  ·have hke:k=l.length:=by omega
   subst hke;rw[List.take_length] at HI;have hge:¬((l.length:Int)<(l.length:Int)):=by omega
   go_wp2_with fail;go_ret;exact⟨rfl,HI.out⟩
theorem zk0 (l:List ByteArray)(B:Nat)(p:ByteArray)(w:World)(h:zjy w B l):
  Calls prog 36 #[.map (some B),.string p] w fun e w'=>e=.returned (.bool (decide (p∈l)))∧Below w.heap.size w w':=by
 have hlk:=z2f.lookup (w:=w) h (z2d underlying9) underlying80 (z:=.agg #[]) (by rfl) p true
 have hA:Below w.heap.size w (w.alloc (.cells #[] 106)):=(Below.refl _ _).alloc (Nat.le_refl _) _;have HA:=hd_ hA;clear h hA;by_cases hin:p∈l
 all_goals
  have hv:z2h z4i (.agg #[]) true (z4h l p)=.tuple #[.agg #[],.bool (decide (p∈l))]:=by unfold z4h;first | (rw[if_pos hin,decide_eq_true hin];rfl) | (rw[if_neg hin,decide_eq_false hin];rfl)
  rw[hv] at hlk;generalize decide (p∈l)=b at hlk ⊢;clear hin hv;go_enter func36,ntmps36;go_wp2_with fail;go_ret;exact⟨rfl,HA.out⟩
theorem zma {x y:ByteArray}(hy:z79 y=false):z9s x y=decide (x=y):=by
 unfold z9s;rw[hy];by_cases h:x=y
 ·rw[if_pos h,decide_eq_true h]
 ·rw[if_neg h,decide_eq_false h];rfl
theorem zmb {x y:ByteArray}(hx:z79 x=true)(hy:z79 y=true):z9s x y=Lib.hasSuffix (z80 x).data.toList (z80 y).data.toList:=by
 unfold z9s;rw[hx,hy];by_cases h:x=y
 ·rw[if_pos h,h];symm
  unfold Lib.hasSuffix;exact List.isSuffixOf_iff_suffix.2 (List.suffix_refl _)
 ·rw[if_neg h];rfl
theorem zmc {x y:ByteArray}(hx:z79 x=false)(hy:z79 y=true):z9s x y=z82 y x:=by
 unfold z9s;rw[hx,hy];rw[if_neg (fun h=>by rw[h,hy] at hx;cases hx)];rfl
theorem zmd {x:ByteArray}(h:z7b x≠0)(hx:z79 x=false):z0v x=true:=by
 unfold z7b at h;rw[hx] at h;cases hc:z0v x with
 | true=>rfl
 | false=>rw[hc] at h;exact absurd rfl h
theorem zme (x y:ByteArray)(w:World)(hx:z7b x≠0)(hy:z7b y≠0)(zx:x.size≤1000000)(zy:y.size≤1000000):
  Calls prog 223 #[.string x,.string y] w fun e w'=>e=.returned (.bool (z9s x y))∧Below w.heap.size w w':=by
 have HX:=hd_ (fun X=>z9n x X (by unfold maxLen;omega))
 have HY:=hd_ (fun X=>z9n y X (by unfold maxLen;omega))
 have HC:=hd_ (fun X=>z9r y x X (by unfold maxLen;omega) (by unfold maxLen;omega))
 have HS:=hd_ (fun X=>z9p (z80 x) (z80 y) X _ (by unfold z80;rw[ByteArray.size_extract];omega) rfl)
 unfold z9k at HX HY;rw[z9b hx] at HX;rw[z9b hy] at HY;cases hsy:z79 y with
 | false =>
  have HR:=hd_ (zma (x:=x) hsy);have HE:=hd_ (z84 x y);rw[hsy] at HY;clear hsy HC HS;generalize z79 x=sx at HX;generalize (if sx=true then z80 x else z2l)=ux at HX;go_enter func223,ntmps223;go_wp2_with fail;refine (HX.out _).mono ?_;rintro e w' ⟨rfl,rfl⟩;go_wp2_with fail;refine (HY.out _).mono ?_;rintro e w' ⟨rfl,rfl⟩;go_wp2_with fail;go_ret;exact⟨by rw[HR.out,← HE.out];rfl,Below.refl _ _⟩
 | true =>
  cases hsx:z79 x with
  | true =>
   have HR:=hd_ (zmb hsx hsy);rw[hsy] at HY;rw[hsx] at HX;rw[if_pos rfl] at HX HY;clear hsy hsx HC;generalize z80 x=ux at HX HS HR;generalize z80 y=uy at HY HS HR;generalize Lib.hasSuffix ux.data.toList uy.data.toList=b at HS HR;go_enter func223,ntmps223;go_wp2_with fail;refine (HX.out _).mono ?_;rintro e w' ⟨rfl,rfl⟩;go_wp2_with fail;refine (HY.out _).mono ?_;rintro e w' ⟨rfl,rfl⟩;go_wp2_with fail;refine (HS.out _).mono ?_;rintro e w' ⟨rfl,rfl⟩;go_wp2_with fail;go_ret;exact⟨by rw[HR.out];rfl,Below.refl _ _⟩
  | false =>
   have HR:=hd_ (zmc hsx hsy);rw[z9g hy (zmd hx hsx)] at HC;rw[hsy] at HY;rw[hsx] at HX;clear hsy hsx HS;rw[if_pos rfl] at HY;generalize z80 y=uy at HY;generalize z82 y x=b at HC HR;generalize z97 y x=c at HC;go_enter func223,ntmps223;go_wp2_with fail;refine (HX.out _).mono ?_;rintro e w' ⟨rfl,rfl⟩;go_wp2_with fail;refine (HY.out _).mono ?_;rintro e w' ⟨rfl,rfl⟩;go_wp2_with fail;refine (HC.out _).mono ?_;rintro e w' ⟨rfl,rfl⟩;go_wp2_with fail;go_ret;exact⟨by rw[HR.out];rfl,Below.refl _ _⟩
end Go.Proofs.YtegeboijhifmcaaGreatDoor
