/- A part. -/
import Derived.Test.YtijghobkkdbhnaaGreatDoorMcw12
import Derived.Test.YtijghobkkdbhnaaGreatDoorMyAlF
import Derived.Test.YtijghobkkdbhnaaGreatDoorMcw13
set_option linter.unusedVariables false
set_option linter.unusedSimpArgs false
set_option maxHeartbeats 8000000
set_option maxRecDepth 100000
namespace Go.Proofs.YtijghobkkdbhnaaGreatDoor
open Go.Proofs.Tryz
open Go.RowKit Go.Lib
open Go.Sort hiding Below
abbrev za8:={ s:ByteArray // z2x s=true∧s.size≤1000000 }
instance:Inhabited za8:=⟨⟨z5z,z60,by unfold z5z;decide⟩⟩
def za8.enc (x:za8):Value:=.string x.1
def za8.cmp (x y:za8):Int:=z2z x.1 y.1
theorem za9:z5v za8.cmp:=totP (f:=fun r:za8=>r.1) fun r=>r.2.1
theorem zaa (blk off size:Nat)(w:World):CmpReads prog 55 #[] za8.enc za8.cmp blk off size w:=
 fun m os dk _ x y=>(z47 x.1 y.1 (sortWorld za8.enc w blk off m dk os) (by have:=x.2.2;omega) (by have:=y.2.2;omega)).mono fun e w' h=>h
theorem zab:∀ {l:List ByteArray},(∀ r∈l,z2x r=true∧r.size≤1000000)→∃ l':List za8,l'.map (·.1)=l
 | [],_=>⟨[],rfl⟩
 | r :: l,h=>by
  obtain⟨l',rfl⟩:=zab fun x hx=>h x (List.mem_cons_of_mem _ hx);exact⟨⟨r,h r (List.mem_cons_self ..)⟩ :: l',rfl⟩
theorem zac (A:Option Addr)(c:Nat)(w:World):Calls prog 178 #[.slice A 0 c,.int .i64 0,.int .i64 0,.func (.func 55) #[] #[]] w fun e w'=>e=.returned (.tuple #[])∧w=w':=by
 go_enter func178,ntmps178;go_wp2
 refine wp_loop_rounds 1 ?_;rw[rounds_succ];go_wp2
 go_end0
 exact⟨rfl,rfl⟩
def SrEnd (w:World)(v:Value)(l:List ByteArray)(w':World):Prop:=∃ l':List ByteArray,l'.Perm l∧l'.Pairwise (fun a b=>¬ z2z b a<0)∧Row w' 1 v l.length (l'.map .string)∧w.grownBy w' v.ownBlock
def SrPost (w:World)(base:Nat)(v:Value)(l:List ByteArray)(e:Ending)(w':World):Prop:=
 e=.returned (.tuple #[])∧SrEnd w v l w'
theorem zad (l:List za8)(v:Value)(base:Nat)(lim:Int)(w:World)(hown:w.ownsRow base 9 1 v l.length (l.map za8.enc))(hl:l.length≤12)(h0:0<l.length):
  Calls prog 128 #[v,.int .i64 0,.int .i64 l.length,.int .i64 lim,.func (.func 55) #[] #[]] w (SrPost w base v (l.map (·.1))):=by
 obtain⟨g,cap,rfl⟩:=z0s hown h0;have hHold:Holds za8.enc w g 0 l.toArray:=fun j hj=>by
  have hj':j<l.length:=by simpa using hj
  have h1:=z9x hown (j:=j) (u:=za8.enc l[j]) (by rw[List.getElem?_map,List.getElem?_eq_getElem hj'];rfl)
  rw[Nat.zero_add,getElem!_pos l.toArray j hj];exact⟨h1.1,h1.2.1⟩
 have H:=hd_ (Tryz.insertionSortCmpFunc_one za8.enc (fun _=>rfl) za8.cmp 55 #[] g 0 cap 0 l.length l.toArray w (fun args w=>by kernel_rfl) (zaa g 0 _ w) hHold (Nat.zero_le _) (by simp) (by simp;omega))
 have HH:=hd_ hHold;have HO:=hd_ hown;have hs0:l.toArray.size=l.length:=by simp
 rw[hs0,show ((0:Nat):Int)=0 from rfl] at H;have hle:decide ((l.length:Int)≤12)=true:=by simp;omega
 have hle':decide (l.length≤12)=true:=by simp;omega
 clear hown hHold hs0;go_enter func128,ntmps128;go_wp2_with fail;go_loop [1,2] (fun a b=>a=.int .i64 0∧b=.int .i64 l.length) (fun _ _=>1)
 case atStart=>exact⟨rfl,rfl⟩
 case round =>
  obtain⟨rfl,rfl⟩:=hrel;go_wp2_with fail;refine H.out.mono ?_;rintro e w' ⟨rfl,n,rfl⟩;go_wp2_with fail;go_end0
  have hs0:l.toArray.size=l.length:=by simp
  obtain⟨k1,k2⟩:=Go.Sort.insertionSort_holds za9.swo l.toArray 0 l.length (Nat.zero_le _) (by rw[hs0];exact Nat.le_refl _)
  have hHn:=holds_putRow za8.enc w g 0 l.toArray (Sort.insertionSort (ltOf za8.cmp) l.toArray 0 l.length) HH.out k1.1;have hgrow:w.grownBy ((putRow za8.enc w g 0 (Sort.insertionSort (ltOf za8.cmp) l.toArray 0 l.length)).drewN n) (some g):=by
   refine⟨rfl,rfl,rfl,by show w.heap.size≤(putRow za8.enc w g 0 _).heap.size;rw[size_putRow];exact Nat.le_refl _,fun k hk hne=>?_⟩
   show (w.heap.modify g _)[k]? = w.heap[k]?
   rw[Array.getElem?_modify,if_neg (fun e=>hne (by rw[e]))]
  have hlt:g<w.heap.size:=(HO.out.lt g rfl).2;generalize hd:Sort.insertionSort (ltOf za8.cmp) l.toArray 0 l.length=d' at k1 k2 hHn hgrow;have hs:d'.size=l.length:=by rw[k1.1,hs0]
  refine⟨rfl,(d'.toList).map (·.1),?_,?_,?_,hgrow⟩
  ·refine List.Perm.map _ ?_;have:=k1.2.2;rw[← hs,Array.extract_size,hs,← hs0,Array.extract_size] at this;simpa using this
  ·rw[List.pairwise_map,List.pairwise_iff_getElem];intro i j hi hj hij;have hi':i<d'.size:=by simpa using hi
   have hj':j<d'.size:=by simpa using hj
   have:=k2 i j (Nat.zero_le _) hij (by omega)
   rw[getElem!_pos d' j hj',getElem!_pos d' i hi'] at this;have h3:=of_decide_eq_false (show decide (z2z d'[j].1 d'[i].1<0)=false from this);simpa using h3
  ·rw[List.length_map];obtain⟨A',c',e,h1,h2,-⟩:=Row.of_own HO.out;injection e with e1 e2 e3
   subst e3;refine⟨_,_,rfl,h1,h2,by simp [hs],fun h=>(by cases h),fun _=>⟨_,rfl,Nat.lt_of_lt_of_le hlt hgrow.size,fun j u hu=>?_⟩⟩
   have hadd:(⟨g,0,none⟩:Addr).add j=⟨g,j,none⟩:=by unfold Addr.add;split <;> simp_all
   rw[hadd];rw[List.map_map,List.getElem?_map,Option.map_eq_some_iff] at hu;obtain⟨x,hx,rfl⟩:=hu;rw[List.getElem?_eq_some_iff] at hx;obtain⟨hj,hx⟩:=hx;have hj':j<d'.size:=by simpa using hj
   have:=(hHn j hj').1;rw[Nat.zero_add,getElem!_pos d' j hj'] at this;have hx':d'[j]=x:=by simpa using hx
   rw[hx'] at this;exact this
theorem zae (A:Option Addr)(c:Nat)(lim:Int)(w:World):
  Calls prog 128 #[.slice A 0 c,.int .i64 0,.int .i64 0,.int .i64 lim,.func (.func 55) #[] #[]] w fun e w'=>e=.returned (.tuple #[])∧w=w':=by
 have H:=hd_ (zac A c w);go_enter func128,ntmps128;go_wp2_with fail;go_loop [1,2] (fun a b=>a=.int .i64 0∧b=.int .i64 0) (fun _ _=>1)
 case atStart=>exact⟨rfl,rfl⟩
 case round =>
  obtain⟨rfl,rfl⟩:=hrel;go_wp2_with fail;refine H.out.mono ?_;rintro e w' ⟨rfl,rfl⟩;go_wp2_with fail;exact bodyPost_ret (v:=.tuple #[]) (by simp [results,results128,go_sem]) rfl ⟨rfl,rfl⟩
theorem zaf (l:List ByteArray)(v:Value)(base:Nat)(w:World)(hown:w.ownsRow base 9 1 v l.length (l.map .string))(hl:l.length≤12)(hv:∀ x∈l,z2x x=true∧x.size≤1000000):
  Calls prog 71 #[v,.func (.func 55) #[] #[]] w (SrPost w base v l):=by
 obtain⟨A,c,rfl⟩:=z0o hown;have HL:=hd_ (Tryz.bits_Len (l.length:Int) w (by omega) (by omega))
 have hw:IntKind.u64.wrap (l.length:Int)=(l.length:Int):=by simp [IntKind.wrap,IntKind.bits,IntKind.signed];omega
 by_cases h0:l.length=0
 ·have hl0:l=[]:=List.eq_nil_of_length_eq_zero h0;subst hl0;have H:=hd_ (fun lim=>zae A c lim w);have HO:=hd_ hown;clear hown hv;go_enter func71,ntmps71;go_wp2_with fail;refine HL.out.mono ?_;rintro e w' ⟨rfl,rfl⟩;go_wp2_with fail;refine (H.out _).mono ?_;rintro e w' ⟨rfl,rfl⟩;go_wp2_with fail;go_end0
  exact⟨rfl,[],List.Perm.refl _,List.Pairwise.nil,Row.of_own HO.out,⟨rfl,rfl,rfl,Nat.le_refl _,fun _ _ _=>rfl⟩⟩
 ·obtain⟨l',rfl⟩:=zab hv;rw[List.length_map] at h0 hl hw HL;have H:=hd_ (fun lim=>zad l' (.slice A (l'.map (·.1)).length c) base lim w (by rw[List.map_map] at hown;rw[List.length_map] at hown ⊢;exact hown) hl (by omega))
  rw[List.length_map] at H ⊢;clear hown hv;go_enter func71,ntmps71;go_wp2_with fail;refine HL.out.mono ?_;rintro e w' ⟨rfl,rfl⟩;go_wp2_with fail;refine (H.out _).mono ?_;rintro e w' ⟨rfl,h1⟩;have H1:=hd_ h1;clear h1;go_wp2_with fail;go_end0
  exact⟨rfl,H1.out⟩
open Go.RowKit
open Go.Sort (grow)
def addP (l:List ByteArray)(p:ByteArray):List ByteArray:=if p∈l then l else l++[p]
def zaj (D:List Rev):List ByteArray:=D.foldl (fun l r=>addP l r.path) []
theorem zak (D:List Rev)(k:Nat)(hk:k<D.length):zaj (D.take (k+1))=addP (zaj (D.take k)) D[k].path:=by
 unfold zaj;rw[List.take_succ_eq_append_getElem hk,List.foldl_append];rfl
theorem zal {l:List ByteArray}{p q:ByteArray}:q∈addP l p↔q∈l∨q=p:=by
 unfold addP;split
 ·rename_i h
  exact⟨.inl,fun h2=>h2.elim id fun e=>e ▸ h⟩
 ·simp
theorem zam (D:List Rev){q:ByteArray}:q∈zaj D↔∃ r∈D,r.path=q:=by
 suffices h:∀(D:List Rev) (l:List ByteArray),q∈D.foldl (fun l r=>addP l r.path) l↔q∈l∨∃ r∈D,r.path=q by
  unfold zaj;rw[h];simp
 intro D;induction D with
 | nil=>intro l;simp
 | cons r D ih =>
  intro l;rw[List.foldl_cons,ih,zal];constructor
  ·rintro ((h | h) | ⟨x,hx,h⟩)
   ·exact .inl h
   ·exact .inr ⟨r,List.mem_cons_self ..,h.symm⟩
   ·exact .inr ⟨x,List.mem_cons_of_mem _ hx,h⟩
  ·rintro (h | ⟨x,hx,h⟩)
   ·exact .inl (.inl h)
   ·rcases List.mem_cons.1 hx with rfl | hx
    ·exact .inl (.inr h.symm)
    ·exact .inr ⟨x,hx,h⟩
theorem zan (D:List Rev):(zaj D).Nodup:=by
 suffices h:∀(D:List Rev) (l:List ByteArray),l.Nodup→(D.foldl (fun l r=>addP l r.path) l).Nodup from h D [] List.nodup_nil
 intro D;induction D with
 | nil=>intro l hl;exact hl
 | cons r D ih =>
  intro l hl;rw[List.foldl_cons];refine ih _ ?_;unfold addP;split
  ·exact hl
  ·rename_i h
   exact List.nodup_append.2 ⟨hl,by simp,fun a ha b hb=>by rw[List.mem_singleton] at hb;subst hb;exact fun e=>h (by rw[← e];exact ha)⟩
theorem zao {α:Type}[DecidableEq α]:∀ {l B:List α},l.Nodup→(∀ x∈l,x∈B)→l.length≤B.length
 | [],B,_,_=>Nat.zero_le _
 | a :: l,B,hn,hs=>by
  have h1:=List.nodup_cons.1 hn;have ha:=hs a (List.mem_cons_self ..);have:=zao (B:=B.erase a) h1.2 fun x hx=>(List.mem_erase_of_ne (fun e=>h1.1 (by rw[← e];exact hx))).2 (hs x (List.mem_cons_of_mem _ hx))
  rw[List.length_erase_of_mem ha] at this;have hp:=List.length_pos_of_mem ha;rw[List.length_cons];omega
theorem zap {D:List Rev}{B:List ByteArray}(h:∀ r∈D,r.path∈B):(zaj D).length≤B.length:=zao (zan D) fun q hq=>by
 obtain⟨r,hr,rfl⟩:=(zam D).1 hq;exact h r hr
theorem zaq {l l':List ByteArray}(hp:l'.Perm l)(hs:l'.Pairwise (fun a b=>¬ z2z b a<0))(hn:l.Nodup)(hv:∀ x∈l,z2x x=true):z63 (fun q:ByteArray=>q) l':=by
 have hn':l'.Pairwise (·≠·):=(hp.nodup_iff).2 hn;have hv':∀ x∈l',z2x x=true:=fun x hx=>hv x (hp.mem_iff.1 hx);have h2:=List.pairwise_and_iff.2 ⟨hs,hn'⟩;unfold z63;refine (List.Pairwise.imp_of_mem ?_ h2);intro a b ha hb ⟨h3,h4⟩
 rw[z5w] at h3;have h5:z2z a b≠0:=fun e=>h4 (z5x (hv' a ha) (hv' b hb) e);show z2z a b<0
 omega
structure zar (w wr:World)(v:Value)(l:List ByteArray):Prop where
 low:zB w wr
 map:z2k Value.string z4o wr (w.heap.size+1) (z4n l)
 own:wr.ownsRow (w.heap.size+1+1) 9 1 v l.length (l.map .string)
theorem zar.under {w wr wx:World}{v:Value}{l:List ByteArray}(h:zar w wr v l)(hb:zB wr wx):zar w wx v l:=⟨z0r h.low hb,h.map.below hb,z0n h.own hb⟩
theorem zar.upd {w wr w3:World}{v:Value}{l:List ByteArray}{f:ByteArray→Option Unit}(h:zar w wr v l)(hM:z2k Value.string z4o w3 (w.heap.size+1) f)(hg:wr.grownBy w3 (some (w.heap.size+1))):
  zB w w3∧w3.ownsRow (w.heap.size+1+1) 9 1 v l.length (l.map .string):=
 ⟨h.low.grown hg h.low.size (fun k e=>by injection e with e;omega),z4w h.own hg (fun x e e2=>by injection e2 with e2;have:=(h.own.lt x e).1;omega)⟩
theorem zas (p:ByteArray)(l:List ByteArray):z4n (l++[p])=upd (z4n l) p ():=by
 rw[← z4p];funext x
 unfold z4n;by_cases h:x∈l++[p]
 ·rw[if_pos h,if_pos (by simp at h ⊢;exact h.symm)]
 ·rw[if_neg h,if_neg (by simp at h ⊢;exact⟨h.2,h.1⟩)]
theorem zat (D:List Rev)(B:List ByteArray)(dv dr:Value)(w:World)(hR:z4c w dv D)(hl:D.length≤1000000)(hB:∀ r∈D,r.path∈B)(hB12:B.length≤12)(hBv:∀ x∈B,z2x x=true∧x.size≤1000000):
  Calls prog 34 #[.agg #[dv,dr]] w fun e w'=>∃ v l,e=.returned v∧zB w w'∧Strs w' v l∧z63 (fun q:ByteArray=>q) l∧∀ q,q∈l↔∃ r∈D,r.path=q:=by
 obtain⟨Ar,cr,rfl,-⟩:=id hR;have hBox:=z0l w [.slice Ar D.length cr,dr] 27;have hA:zB w (w.alloc (.cells #[.slice Ar D.length cr,dr] 27)):=(Below.refl _ _).alloc (Nat.le_refl _) _;have hs1:(w.alloc (.cells #[.slice Ar D.length cr,dr] 27)).heap.size=w.heap.size+1:=by simp
 have hmm:=@run_makeMap prog;have HR:=hd_ hR;have HB:=hd_ hB;have HBV:=hd_ hBv;have HLL:Hid (∀ k,(zaj (D.take k)).length≤12):=hd_ (fun k=>Nat.le_trans (zap (B:=B) fun r hr=>hB r (List.mem_of_mem_take hr)) hB12);have HTK:=hd_ (zak D);clear hR hB hBv hB12;go_enter func34,ntmps34;go_upto_region 1 with fail;generalize w.alloc (.cells #[.slice Ar D.length cr,dr] 27)=W1 at hBox hA hs1 ⊢;have HS0:Hid (zar w (W1.alloc (.map #[] 0)) (.slice none 0 0) []):=hd_ (by
  refine⟨hA.alloc hA.size _,?_,World.ownsRow_nil _ _ _ _⟩;have:=z2k.new Value.string z4o W1;rw[hs1] at this;exact this)
 have d0:(W1.alloc (.map #[] 0)).cell? ⟨w.heap.size,0,none⟩=some (.slice Ar D.length cr):=(hBox.alloc _).cell 0;have HS1:=hd_ hs1;clear hBox hA hs1;go_upto_region 3 with fail;rw[HS1.out];generalize W1.alloc (.map #[] 0)=W2 at HS0 d0 ⊢;clear hmm;go_wp2_with fail;go_loopw [4,13] (fun lv i wr=>∃(k n:Nat) (A:Option Addr) (c:Nat),lv=.slice A n c∧i=.int .i64 k∧k≤D.length∧Hid (n=(zaj (D.take k)).length∧zar w wr (.slice A n c) (zaj (D.take k)))) (fun _ i _=>D.length - (intOf i).toNat)
 case atStart=>exact⟨0,0,none,0,rfl,rfl,Nat.zero_le _,hd_ ⟨rfl,HS0.out⟩⟩
 case round =>
  obtain⟨k,n,A,c,rfl,rfl,hk,HI⟩:=hrel;clear d0;by_cases hlt:k<D.length
  ·obtain⟨ad,rfl,hab,hld⟩:=z4c.at_ (HR.out.below HI.out.2.low) hlt;have HT:=hd_ (HTK.out k hlt);have hbv:=HBV.out _ (HB.out D[k] (List.getElem_mem hlt));have HL1:=hd_ (HLL.out (k+1));have HL0:=hd_ (HLL.out k);generalize D[k]=r at hld HT hbv;obtain⟨x0,x1,x2,x3,x4,x5,x6,x7,x8,x9,x10,x11⟩:=hld;have hX:=z0l wr [.string r.path,.int .i64 r.num,.int .i64 r.chg,.int .i64 r.act,.int .i64 r.ty.base,.bool r.ty.k,.bool r.ty.l,.bool r.ty.x,.int .u64 r.sum,.int .i64 r.size,.string r.frm,.int .i64 r.fnum] 90;have HX:Hid (zar w (wr.alloc (.cells #[.string r.path,.int .i64 r.num,.int .i64 r.chg,.int .i64 r.act,.int .i64 r.ty.base,.bool r.ty.k,.bool r.ty.l,.bool r.ty.x,.int .u64 r.sum,.int .i64 r.size,.string r.frm,.int .i64 r.fnum] 90)) (.slice A n c) (zaj (D.take k))):=hd_ (HI.out.2.under ((Below.refl _ _).alloc (Nat.le_refl _) _));go_upto_region 6 with fail;clear x0 x1 x2 x3 x4 x5 x6 x7 x8 x9 x10 x11 hab;have hg6:w.heap.size+1<wr.heap.size:=HI.out.2.map.lt;generalize wr.alloc (.cells #[.string r.path,.int .i64 r.num,.int .i64 r.chg,.int .i64 r.act,.int .i64 r.ty.base,.bool r.ty.k,.bool r.ty.l,.bool r.ty.x,.int .u64 r.sum,.int .i64 r.size,.string r.frm,.int .i64 r.fnum] 90)=W6 at hX HX ⊢;generalize wr.heap.size=g6 at hX hg6 ⊢;have y0:W6.cell? ⟨g6,0,none⟩=some (.string r.path):=hX.cell 0;have HX6:=hd_ hX;have HN0:=hd_ HI.out.1;clear hX;generalize hll:zaj (D.take k)=l at HX HT HL0 HN0;obtain⟨p,hpe⟩:∃ p,r.path=p:=⟨_,rfl⟩;rw[hpe] at y0 HT hbv;have HPE:=hd_ hpe;clear hpe;have HLK:=hd_ hlt;have hlk:=z2k.lookup (w:=W6) HX.out.map (z2i underlying9) underlying108 (z:=.agg #[]) (by rfl) p true
   clear hll HI;by_cases hin:p∈l
   ·have hv:z2m z4o (.agg #[]) true (z4n l p)=.tuple #[.agg #[],.bool true]:=by unfold z4n;rw[if_pos hin];rfl
    rw[hv] at hlk;have HT2:Hid (zaj (D.take (k+1))=l):=hd_ (by rw[HT.out];exact if_pos hin)
    clear hin hv;go_wp2_with fail;go_roundw
    case rel=>exact⟨k+1,n,A,c,rfl,by go_num,by omega,hd_ ⟨by rw[HT2.out];exact HN0.out,by rw[HT2.out];exact HX.out.under ((Below.refl _ _).alloc (Nat.le_refl _) _)⟩⟩
    case measure=>simp [intOf];omega
   ·have hv:z2m z4o (.agg #[]) true (z4n l p)=.tuple #[.agg #[],.bool false]:=by unfold z4n;rw[if_neg hin];rfl
    rw[hv] at hlk;have HT2:Hid (zaj (D.take (k+1))=l++[p]):=hd_ (by rw[HT.out];exact if_neg hin)
    have HVA:=hd_ (fun X=>zai p true hbv.1 X (by have:=hbv.2;omega))
    clear hin hv;have HX7:=hd_ (HX.out.under ((Below.refl W6.heap.size W6).alloc (Nat.le_refl _) (.cells #[] 136)));have hX7:=HX6.out.alloc (.cells #[] 136);have y7:(W6.alloc (.cells #[] 136)).cell? ⟨g6,0,none⟩=some (.string p):=by rw[← HPE.out];exact hX7.cell 0
    obtain⟨w3,hup,hM3,hg3,-⟩:=z2k.update (w:=W6.alloc (.cells #[] 136)) HX7.out.map (z2i underlying9) underlying108 p ();have hup':(Instr.mapUpdate 108 (.map (some (w.heap.size+1))) (.string p) (.agg #[])).run prog (W6.alloc (.cells #[] 136))=.ok () w3:=hup;have y3:w3.cell? ⟨g6,0,none⟩=some (.string p):=by rw[← HPE.out];exact (hX7.grown hg3 (fun e=>by injection e with e;omega)).cell 0
    obtain⟨hlo,how⟩:=HX7.out.upd hM3 hg3;have hba:zB w3 (w3.alloc (.cells #[.string p] 9)):=(Below.refl _ _).alloc (Nat.le_refl _) _;have hlo4:=z0r hlo hba;have how4:=z0n how hba;have hM4:=hM3.below hba;have hrow:=z0i w3 [.string p] 9 1 1 rfl (by decide) _ rfl
    have hsz:w.heap.size+1+1≤(w3.alloc (.cells #[.string p] 9)).heap.size:=by have:=hM4.lt;omega
    have HN1:=hd_ HN0.out;have hn12:n≤12:=by have h1:=HN0.out;have h2:=HL0.out;omega
    have hown:(w3.alloc (.cells #[.string p] 9)).ownsRow (w.heap.size+1+1) 9 1 (.slice A n c) n (l.map .string):=by rw[HN0.out] at how4 ⊢;exact how4
    have HLO:=hd_ hlo4;have HMA:=hd_ hM4;have HOW:=hd_ hown;clear hup hX7 hlo how hba hlo4 how4 hM4 hown hM3;go_wp2_with (first
     | (go_at_call 70;refine (HVA.out _).mono ?_;rintro e w' ⟨rfl,rfl⟩)
     | (at_builtin;refine z0j rfl rfl z89 HOW.out rfl hrow rfl (by simp [Value.oneCell']) (by omega) (by unfold maxLen;omega) hsz ?_;intro A' c' w9 hown hgr hob))
    have HP:Hid (zar w w9 (.slice A' (n+1) c') (l++[p])):=hd_ (by
     refine⟨HLO.out.grown hgr HLO.out.size (fun k e=>by have:=(HOW.out.lt k e).1;omega),?_,?_⟩
     ·rw[zas];exact HMA.out.grown hgr (fun e=>by have:=(HOW.out.lt _ e.symm).1;omega)
     ·rw[List.length_append,List.length_singleton,← HN1.out,List.map_append];exact hown)
    clear hown hgr hob;go_wp2_with fail;go_roundw
    case rel=>exact⟨k+1,n+1,A',c',rfl,by go_num,by omega,hd_ ⟨by rw[HT2.out,List.length_append,← HN1.out];rfl,by rw[HT2.out];exact HP.out⟩⟩
    case measure=>simp [intOf];omega
  ·have hke:k=D.length:=by omega
   subst hke;rw[List.take_length] at HI;have hge:¬((D.length:Int)<(D.length:Int)):=by omega
   have HLD:=hd_ (HLL.out D.length);rw[List.take_length] at HLD;have HSO:=hd_ (zaf (zaj D) (.slice A n c) (w.heap.size+1+1) wr HI.out.2.own HLD.out (fun x hx=>by
    obtain⟨r,hr,rfl⟩:=(zam D).1 hx;exact HBV.out _ (HB.out r hr)))
   go_wp2_with fail;refine HSO.out.mono ?_;rintro e w9 ⟨rfl,h9⟩;have H9:=hd_ h9;clear h9;go_wp2_with fail;go_ret;obtain⟨l',hp,hs,hr,hg⟩:=H9.out;refine⟨_,l',rfl,HI.out.2.low.grown hg HI.out.2.low.size (fun k e=>by have:=(HI.out.2.own.lt k e).1;omega),?_,zaq hp hs (zan D) (fun x hx=>by
    obtain⟨r,hr,rfl⟩:=(zam D).1 hx;exact (HBV.out _ (HB.out r hr)).1),fun q=>by rw[hp.mem_iff];exact zam D⟩
   show Row w9 1 _ l'.length _
   rw[hp.length_eq];exact hr
def zbh (l r:Pat)(s:ByteArray):Option ByteArray:=(z8g l s).map (zb9 r)
def zbi (w:World)(o:Option ByteArray)(e:Ending)(w':World):Prop:=e=.returned (.tuple #[.string (o.getD ⟨#[]⟩),.bool o.isSome])∧zB w w'
theorem zbj (l r:Pat)(s:ByteArray)(A B:Option Addr)(a b:Nat)(w:World)(he:Env w)(hs:s.size≤1000000)(hl:z9j w (.slice A l.parts.length a) l)(hr:z9j w (.slice B r.parts.length b) r)(hf:∀ caps,z8g l s=some caps→zba r caps):
  Calls prog 130 #[.agg #[.slice A l.parts.length a,.bool l.rest],.agg #[.slice B r.parts.length b,.bool r.rest],.string s] w (zbi w (zbh l r s)):=by
 have hA:zB w ((w.alloc (.cells #[.slice A l.parts.length a,.bool l.rest] 68)).alloc (.cells #[.slice B r.parts.length b,.bool r.rest] 68)):=((Below.refl _ _).alloc (Nat.le_refl _) _).alloc (by simp) _
 have h2:zb5 ((w.alloc (.cells #[.slice A l.parts.length a,.bool l.rest] 68)).alloc (.cells #[.slice B r.parts.length b,.bool r.rest] 68)) w.heap.size (.slice A l.parts.length a) l.rest:=(z0l w [.slice A l.parts.length a,.bool l.rest] 68).alloc _;have h3:zb5 ((w.alloc (.cells #[.slice A l.parts.length a,.bool l.rest] 68)).alloc (.cells #[.slice B r.parts.length b,.bool r.rest] 68)) (w.heap.size+1) (.slice B r.parts.length b) r.rest:=by
  have:=z0l (w.alloc (.cells #[.slice A l.parts.length a,.bool l.rest] 68)) [.slice B r.parts.length b,.bool r.rest] 68;rw[World.size_alloc] at this;exact this
 have HM:=hd_ (fun X (hX:zB w X)=>zb2 l s A a X (he.below hX) hs (hl.below hX).1 hl.small);have HFI:=hd_ (fun X (hX:zB w X) caps cv (hc:Strs X cv caps) (h:z8g l s=some caps)=>fill_ok r caps B b cv X (he.below hX) (hr.below hX) hc (hf caps h));have HT:Hid (zbh l r s=(z8g l s).map (zb9 r)):=hd_ rfl;clear he hl hr hf;go_enter func130,ntmps130;go_upto_region 1 with fail;generalize (w.alloc (.cells #[.slice A l.parts.length a,.bool l.rest] 68)).alloc (.cells #[.slice B r.parts.length b,.bool r.rest] 68)=W1 at hA h2 h3 ⊢;have x0:=h2.c0;have x1:=h2.c1;have HA:=hd_ hA;have H3:=hd_ h3;have HM1:=hd_ (HM.out W1 hA);clear h2 h3 hA HM;go_wp2_with fail;refine HM1.out.mono ?_;rintro e w2 ⟨A',n,c,rfl,hb,hm⟩;have HB:=hd_ (z0r HA.out hb);have h3:=H3.out.low hb;have y0:=h3.c0;have y1:=h3.c1;clear x0 x1 hb h3 HM1;obtain⟨o,ho⟩:∃ o,z8g l s=o:=⟨_,rfl⟩;have HO:=hd_ ho;rw[ho] at HT hm ⊢;clear ho;cases o with
 | none =>
  have HR:Hid (zbh l r s=none):=hd_ (by rw[HT.out];rfl)
  clear hm HT;go_wp2_with fail;go_ret2;exact⟨by rw[HR.out];rfl,HB.out⟩
 | some caps =>
  have HR:Hid (zbh l r s=some (zb9 r caps)):=hd_ (by rw[HT.out];rfl)
  obtain⟨rfl,hcs⟩:=hm caps rfl;have HC:=hd_ (HFI.out w2 HB.out caps _ hcs HO.out);generalize zb9 r caps=tx at HC HR;clear hm hcs HT HFI;go_wp2_with fail;refine HC.out.mono ?_;rintro e w3 ⟨rfl,hb⟩;have HB3:=hd_ (z0r HB.out hb);clear hb y0 y1;go_wp2_with fail;go_ret2;exact⟨by rw[HR.out];rfl,HB3.out⟩
theorem zbk (ex:Bool)(l r:Pat)(s:ByteArray)(A B:Option Addr)(a b:Nat)(w:World)(he:Env w)(hs:s.size≤1000000)(hl:z9j w (.slice A l.parts.length a) l)(hr:z9j w (.slice B r.parts.length b) r)(h0:z9i l r=0)(hf:∀ caps,z8g l s=some caps→zba r caps):
  Calls prog 74 #[.agg #[.bool ex,.slice A l.parts.length a,.bool l.rest,.slice B r.parts.length b,.bool r.rest],.string s] w (zbi w (zbh l r s)):=by
 have hB:=z0l w [.bool ex,.slice A l.parts.length a,.bool l.rest,.slice B r.parts.length b,.bool r.rest] 74;have hA:zB w (w.alloc (.cells #[.bool ex,.slice A l.parts.length a,.bool l.rest,.slice B r.parts.length b,.bool r.rest] 74)):=(Below.refl _ _).alloc (Nat.le_refl _) _;have HC:=hd_ (fun X (hX:zB w X)=>z9k ex l r A B a b X (hl.below hX) (hr.below hX));rw[h0] at HC;have HT:=hd_ (fun X (hX:zB w X)=>zbj l r s A B a b X (he.below hX) hs (hl.below hX) (hr.below hX) hf);clear he hl hr hf h0;generalize zbh l r s=o at HT ⊢;go_enter func74,ntmps74;go_upto_region 1 with fail;generalize w.alloc (.cells #[.bool ex,.slice A l.parts.length a,.bool l.rest,.slice B r.parts.length b,.bool r.rest] 74)=W1 at hA hB ⊢;obtain⟨d0,d1,d2,d3,d4⟩:=(⟨hB.cell 0,hB.cell 1,hB.cell 2,hB.cell 3,hB.cell 4⟩:W1.cell? ⟨w.heap.size,0,none⟩=some (.bool ex)∧W1.cell? ⟨w.heap.size,1,none⟩=some (.slice A l.parts.length a)∧W1.cell? ⟨w.heap.size,2,none⟩=some (.bool l.rest)∧W1.cell? ⟨w.heap.size,3,none⟩=some (.slice B r.parts.length b)∧W1.cell? ⟨w.heap.size,4,none⟩=some (.bool r.rest));have HB:=hd_ hB;have HA:=hd_ hA;have HC1:=hd_ (HC.out W1 hA);clear hA hB HC;go_wp2_with fail;refine HC1.out.mono ?_;rintro e w2 ⟨rfl,hb⟩;have hB2:=HB.out.below hb HB.out.lt;have HB2:=hd_ (z0r HA.out hb);have HT2:=hd_ (HT.out w2 HB2.out);clear hb d0 d1 d2 d3 d4 HC1 HT;obtain⟨d1,d2,d3,d4⟩:=(⟨hB2.cell 1,hB2.cell 2,hB2.cell 3,hB2.cell 4⟩:w2.cell? ⟨w.heap.size,1,none⟩=some (.slice A l.parts.length a)∧w2.cell? ⟨w.heap.size,2,none⟩=some (.bool l.rest)∧w2.cell? ⟨w.heap.size,3,none⟩=some (.slice B r.parts.length b)∧w2.cell? ⟨w.heap.size,4,none⟩=some (.bool r.rest));clear hB2;go_wp2_with fail;refine HT2.out.mono ?_;rintro e w3 ⟨rfl,hb⟩;have HB3:=hd_ (z0r HB2.out hb);clear hb d1 d2 d3 d4;go_wp2_with fail;go_ret2;exact⟨rfl,HB3.out⟩
structure zcg (p:Pat):Prop where
 rest:p.rest=true
 pat:z7g p=0
 star:∀ x∈p.parts,z7b x=false
theorem zch:z0e prog 180 228 2 32:=z0f underlying180 (z:=.agg #[.slice none 0 0,.bool false]) (by kernel_rfl) rfl (by decide)
def zci (w:World)(p q:Pat)(e:Ending)(w':World):Prop:=zB w w'∧∃ B1 c1 A c,e=.returned (.tuple #[.slice (some B1) 1 c1,.bool true])∧Row w' 2 (.slice (some B1) 1 c1) 1 [.slice A (q.parts.length - p.parts.length) c,.bool true]∧Strs w' (.slice A (q.parts.length - p.parts.length) c) (q.parts.drop p.parts.length)
def SubPost (w:World)(p:Pat)(l:List ByteArray)(e:Ending)(w':World):Prop:=zB w w'∧∃ A' c',e=.returned (.tuple #[.agg #[.slice A' (p.parts.length+l.length) c',.bool true],.int .i64 0])∧(∀ x,(Value.slice A' (p.parts.length+l.length) c').ownBlock=some x→w.heap.size≤x)∧Strs w' (.slice A' (p.parts.length+l.length) c') (p.parts++l)
structure zcm (w wr:World)(g4 g11:Nat)(v:Value)(b:Bool)(l:List ByteArray):Prop where
 low:zB w wr
 le4:w.heap.size≤g4
 le:g4<g11
 box4:zb5 wr g4 (.slice none 0 0) false
 box:zb5 wr g11 v b
 own:wr.ownsRow w.heap.size 9 1 v l.length (l.map .string)
 ne4:v.ownBlock≠some g4
 ne:v.ownBlock≠some g11
theorem zcm.under {w wr wx:World}{g4 g11:Nat}{v:Value}{b:Bool}{l:List ByteArray}(h:zcm w wr g4 g11 v b l)(hb:zB wr wx):zcm w wx g4 g11 v b l:=⟨z0r h.low hb,h.le4,h.le,h.box4.low hb,h.box.low hb,z0n h.own hb,h.ne4,h.ne⟩
theorem zcm.app {w wr w2:World}{g4 g11:Nat}{v:Value}{b:Bool}{l m:List ByteArray}{A':Option Addr}{c' n:Nat}(h:zcm w wr g4 g11 v b l)(hn:n=l.length+m.length)
  (hown:w2.ownsRow w.heap.size 9 1 (.slice A' n c') n (l.map .string++m.map .string)) (hgr:wr.grownBy w2 v.ownBlock)
  (hob:(Value.slice A' n c').ownBlock=v.ownBlock∨(Value.slice A' n c').ownBlock=some wr.heap.size):
  zcm w (w2.setCell ⟨g11,0,none⟩ (.slice A' n c')) g4 g11 (.slice A' n c') b (l++m):=by
 have l4:=Blk.lt h.box4;have l11:=Blk.lt h.box;have n4:(Value.slice A' n c').ownBlock≠some g4:=by
  rcases hob with e | e
  ·rw[e];exact h.ne4
  ·rw[e];intro e2;injection e2 with e2;omega
 have n11:(Value.slice A' n c').ownBlock≠some g11:=by
  rcases hob with e | e
  ·rw[e];exact h.ne
  ·rw[e];intro e2;injection e2 with e2;omega
 have hlt:=h.le;have hl4:=h.le4;refine⟨(h.low.grown hgr h.low.size (fun k e=>(h.own.lt k e).1)).setCell (p:=⟨g11,0,none⟩) (by show w.heap.size≤g11;omega) _,h.le4,h.le,Blk.far (Blk.grown h.box4 hgr (fun e=>h.ne4 e.symm)) (by show g11≠g4;omega) _,(Blk.grown h.box hgr (fun e=>h.ne e.symm)).set_ 0 _,?_,n4,n11⟩
 have hl:(l++m).length=n:=by rw[List.length_append,hn]
 rw[hl,List.map_append];exact z4x hown (p:=⟨g11,0,none⟩) n11 _
theorem zcn {p:Pat}(h:zcg p):z9c p=0:=by
 unfold z9c;rw[List.filter_eq_nil_iff.2]
 ·rfl
 ·intro x hx;rw[h.star x hx];decide
def zdt (q:ByteArray)(p:Rev→Bool)(o:Option Rev)(r:Rev):Option Rev:=
 if r.path=q∧p r=true then (match o with
  | none=>some r
  | some b=>if b.num<r.num then some r else some b) else o
theorem zdu (revs:List Rev)(q:ByteArray)(p:Rev→Bool):z36 revs q p=revs.foldl (zdt q p) none:=rfl
def zdv (o:Option Rev):Rev:=o.getD z2r
theorem far12 {w:World}{g g':Nat}{e:TypeId}{cs:List Value}(h:Blk w g' e cs)(hg:g≠g')(r:Rev):Blk ((((((((((((w.setCell ⟨g,0,none⟩ (.string r.path)).setCell ⟨g,1,none⟩ (.int .i64 r.num)).setCell ⟨g,2,none⟩ (.int .i64 r.chg)).setCell ⟨g,3,none⟩ (.int .i64 r.act)).setCell ⟨g,4,none⟩ (.int .i64 r.ty.base)).setCell ⟨g,5,none⟩ (.bool r.ty.k)).setCell ⟨g,6,none⟩ (.bool r.ty.l)).setCell ⟨g,7,none⟩ (.bool r.ty.x)).setCell ⟨g,8,none⟩ (.int .u64 r.sum)).setCell ⟨g,9,none⟩ (.int .i64 r.size)).setCell ⟨g,10,none⟩ (.string r.frm)).setCell ⟨g,11,none⟩ (.int .i64 r.fnum)) g' e cs:=
 ((((((((((((h.far (p:=⟨g,0,none⟩) hg _).far (p:=⟨g,1,none⟩) hg _).far (p:=⟨g,2,none⟩) hg _).far (p:=⟨g,3,none⟩) hg _).far (p:=⟨g,4,none⟩) hg _).far (p:=⟨g,5,none⟩) hg _).far (p:=⟨g,6,none⟩) hg _).far (p:=⟨g,7,none⟩) hg _).far (p:=⟨g,8,none⟩) hg _).far (p:=⟨g,9,none⟩) hg _).far (p:=⟨g,10,none⟩) hg _).far (p:=⟨g,11,none⟩) hg _)
def zja (w:World)(B:Nat)(l:List ByteArray):Prop:=z2k Value.string z4o w B (z4n l)
theorem zjb (l:List ByteArray)(v:Value)(w:World)(hl:Strs w v l)(hn:l.length≤1000000):
  Calls prog 44 #[v] w fun e w'=>e=.returned (.map (some w.heap.size))∧zja w' w.heap.size l∧zB w w':=by
 obtain⟨A,c,rfl,-⟩:=id hl;have hmk:=fun X=>z2j (P:=prog) 108 9 136 .i64 (l.length:Int) underlying108 X;have HL:=hd_ hl;have HM0:Hid (zja (w.alloc (.map #[] 0)) w.heap.size []∧zB w (w.alloc (.map #[] 0))):=hd_ ⟨z2k.new Value.string z4o w,(Below.refl _ _).alloc (Nat.le_refl _) _⟩;clear hl;go_enter func44,ntmps44;go_upto_region 2 with fail;generalize w.alloc (.map #[] 0)=W1 at HM0 ⊢;clear hmk;go_wp2_with fail;go_loopw [11] (fun i wr=>∃ k:Nat,i=.int .i64 k∧k≤l.length∧Hid (zja wr w.heap.size (l.take k)∧zB w wr)) (fun i _=>l.length - (intOf i).toNat)
 case atStart=>exact⟨0,rfl,Nat.zero_le _,HM0⟩
 case round =>
  obtain⟨k,rfl,hk,HI⟩:=hrel;by_cases hlt:k<l.length
  ·obtain⟨ad,rfl,hab,s0⟩:=Strs.at_ (HL.out.below HI.out.2) hlt;have HT:Hid (l.take (k+1)=l.take k++[l[k]]):=hd_ (List.take_succ_eq_append_getElem hlt);generalize l[k]=p at s0 HT;have hX:zB wr wr:=Below.refl _ _;obtain⟨w3,hup,hM3,hg3,-⟩:=z2k.update (w:=wr) HI.out.1 (z2i underlying9) underlying108 p ();have hup':(Instr.mapUpdate 108 (.map (some w.heap.size)) (.string p) (.agg #[])).run prog wr=.ok () w3:=hup;have HN:Hid (zja w3 w.heap.size (l.take (k+1))∧zB w w3):=hd_ ⟨by unfold zja;rw[HT.out,zas];exact hM3,HI.out.2.grown hg3 HI.out.2.size (fun k e=>by injection e with e;omega)⟩
   have HLT:=hd_ hlt;clear hab hup hM3 hg3 hX;go_wp2_with fail;go_roundw
   case rel=>exact⟨k+1,by go_num,by omega,HN⟩
   case measure=>simp [intOf];omega
  ·have hke:k=l.length:=by omega
   subst hke;rw[List.take_length] at HI;have hge:¬((l.length:Int)<(l.length:Int)):=by omega
   go_wp2_with fail;go_ret;exact⟨rfl,HI.out⟩
theorem zjc (l:List ByteArray)(B:Nat)(p:ByteArray)(w:World)(h:zja w B l):
  Calls prog 45 #[.map (some B),.string p] w fun e w'=>e=.returned (.bool (decide (p∈l)))∧zB w w':=by
 have hlk:=z2k.lookup (w:=w) h (z2i underlying9) underlying108 (z:=.agg #[]) (by rfl) p true
 have hA:zB w (w.alloc (.cells #[] 136)):=(Below.refl _ _).alloc (Nat.le_refl _) _;have HA:=hd_ hA;clear h hA;by_cases hin:p∈l
 all_goals
  have hv:z2m z4o (.agg #[]) true (z4n l p)=.tuple #[.agg #[],.bool (decide (p∈l))]:=by unfold z4n;first | (rw[if_pos hin,decide_eq_true hin];rfl) | (rw[if_neg hin,decide_eq_false hin];rfl)
  rw[hv] at hlk;generalize decide (p∈l)=b at hlk ⊢;clear hin hv;go_enter func45,ntmps45;go_wp2_with fail;go_ret;exact⟨rfl,HA.out⟩
def zks:List ByteArray:=[⟨#[47,47,99,47,97]⟩,⟨#[47,47,99,47,98]⟩,⟨#[47,47,99,47,120,47,97]⟩,⟨#[47,47,99,47,120,47,98]⟩,⟨#[47,47,119,47,97]⟩,⟨#[47,47,99,47,101]⟩,⟨#[47,47,99,47,120,47,122]⟩,⟨#[47,47,113,47,113]⟩]
theorem zkt:∀ p∈zks,z3v p=true:=by decide +kernel
structure zku (x y:Hav):Prop where
 path:y.path=x.path
 loc:z3v y.loc=true
 num:1≤y.num∧y.num≤x.num+1
structure HvSt (l:List Hav)(k:Nat)(out:List Hav):Prop where
 srt:z6i out
 ok:∀ x∈out,x.okB=true
 one:∀ x∈out,∀ y∈out,x.loc=y.loc→x.path=y.path
 of:∀ x∈out,∃(j:Nat) (hj:j<l.length),j<k∧x.path=l[j].path
 len:out.length≤k
theorem hv_0 (l:List Hav):HvSt l 0 []:=⟨List.Pairwise.nil,(fun x h=>by cases h),(fun x h=>by cases h),(fun x h=>by cases h),Nat.le_refl _⟩
theorem hv_skip {l out:List Hav}{k:Nat}(h:HvSt l k out):HvSt l (k+1) out:=
 ⟨h.srt,h.ok,h.one,(fun x hx=>by obtain⟨j,hj,h1,h2⟩:=h.of x hx;exact⟨j,hj,by omega,h2⟩),Nat.le_succ_of_le h.len⟩
theorem hv_put {l out:List Hav}{k:Nat}{y:Hav}(h:HvSt l k out)(hl:zek l)(hk:k<l.length)(hy:zku l[k] y)(hn:∀ x∈out,x.loc≠y.loc):HvSt l (k+1) (out++[y]):=by
 refine⟨?_,fun x hx=>?_,fun a ha b hb e=>?_,fun x hx=>?_,by rw[List.length_append];exact Nat.succ_le_succ h.len⟩
 ·refine z6e h.srt (List.pairwise_singleton _ _) fun a ha b hb=>?_;rw[List.mem_singleton] at hb;subst hb;obtain⟨j,hj,h1,h2⟩:=h.of a ha;rw[h2,hy.path];exact List.pairwise_iff_getElem.1 hl.srt j k hj hk h1
 ·rcases List.mem_append.1 hx with hx | hx
  ·exact h.ok x hx
  ·rw[List.mem_singleton] at hx;subst hx;have h0:=zel (hl.ok _ (List.getElem_mem hk));unfold Hav.okB;rw[hy.path,h0.1,hy.loc];have:=hy.num.1;simp
   omega
 ·rcases List.mem_append.1 ha with ha1 | ha1
  ·rcases List.mem_append.1 hb with hb1 | hb1
   ·exact h.one a ha1 b hb1 e
   ·rw[List.mem_singleton] at hb1;rw[hb1] at e;exact absurd e (hn a ha1)
  ·rw[List.mem_singleton] at ha1;rcases List.mem_append.1 hb with hb1 | hb1
   ·rw[ha1] at e;exact absurd e.symm (hn b hb1)
   ·rw[List.mem_singleton] at hb1;rw[ha1,hb1]
 ·rcases List.mem_append.1 hx with hx | hx
  ·obtain⟨j,hj,h1,h2⟩:=h.of x hx;exact⟨j,hj,by omega,h2⟩
  ·rw[List.mem_singleton] at hx;subst hx;exact⟨k,hk,by omega,hy.path⟩
theorem hv_end {l out:List Hav}{k:Nat}(h:HvSt l k out):zek out:=⟨h.srt,h.ok,h.one⟩
