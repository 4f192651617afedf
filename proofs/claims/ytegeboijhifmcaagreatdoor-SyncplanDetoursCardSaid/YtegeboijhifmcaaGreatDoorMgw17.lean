/- A part of the proof. -/
import Derived.Test.YtegeboijhifmcaaGreatDoorMgw13
import Derived.Test.YtegeboijhifmcaaGreatDoorMgw16
import Derived.Test.YtegeboijhifmcaaGreatDoorMgw14
set_option linter.unusedVariables false
set_option linter.unusedSimpArgs false
set_option maxHeartbeats 4000000
set_option maxRecDepth 100000
namespace Go.Proofs.YtegeboijhifmcaaGreatDoor
open Go.Proofs.Tryz
open Go.RowKit
def zgf (w:World)(U g m:Nat):Prop:=∃(l:List Int) (A:Option Addr) (c at':Nat),Blk w g 72 [.slice A l.length c,.int .i64 at']∧at'≤m∧Row w 1 (.slice A l.length c) l.length (l.map fun(n:Int)=>.int .i64 n)∧(∀ ad,A=some ad→ad.block≠g∧ad.block<U)∧g<U
theorem zgf.mono {w:World}{U g m m':Nat}(h:zgf w U g m)(hm:m≤m'):zgf w U g m':=by
 obtain⟨l,A,c,a,h1,h2,h3,h4⟩:=h;exact⟨l,A,c,a,h1,by omega,h3,h4⟩
theorem zgf.lt {w:World}{U g m:Nat}(h:zgf w U g m):g<w.heap.size:=by
 obtain⟨l,A,c,a,h1,-⟩:=h;exact h1.lt
theorem zgf.ltU {w:World}{U g m:Nat}(h:zgf w U g m):g<U:=by
 obtain⟨l,A,c,a,-,-,-,-,h1⟩:=h;exact h1
theorem zgf.below {w w':World}{U g m:Nat}(h:zgf w U g m)(hb:Below w.heap.size w w'):zgf w' U g m:=by
 obtain⟨l,A,c,a,h1,h2,h3,h4⟩:=h;exact⟨l,A,c,a,h1.below hb h1.lt,h2,h3.below hb,h4⟩
theorem zgf.keep {w w':World}{U g m:Nat}(h:zgf w U g m)(hs:w.heap.size≤w'.heap.size)(hk:∀ x,x<U→w'.heap[x]? = w.heap[x]?):zgf w' U g m:=by
 obtain⟨l,A,c,a,h1,h2,h3,h4,h5⟩:=h;refine⟨l,A,c,a,(hk g h5).trans h1,h2,?_,h4,h5⟩;obtain⟨A',c',e,hc,hm,hl,h00,hx⟩:=h3;refine⟨A',c',e,hc,hm,hl,h00,fun hn=>?_⟩;obtain⟨ad,e2,hb,hcell⟩:=hx hn;injection e with e3 e4 e5
 refine⟨ad,e2,by omega,fun j u hu=>?_⟩
 rw[← hcell j u hu];refine World.cell?_of_block (hk _ ?_);rw[z00];exact (h4 ad (e3.trans e2)).2
theorem row_at1 {w:World}{l:List Int}{A:Option Addr}{c k:Nat}(h:Row w 1 (.slice A l.length c) l.length (l.map fun(n:Int)=>.int .i64 n))(hk:k<l.length):∃ ad,A=some ad∧ad.block<w.heap.size∧w.cell? (ad.add k)=some (.int .i64 l[k]):=by
 obtain⟨A',c',e,hc,hm,hl,h0,hx⟩:=h;injection e with e1 e2 e3
 subst e1 e3;obtain⟨ad,rfl,hb,hcell⟩:=hx (by omega)
 refine⟨ad,rfl,hb,hcell k _ ?_⟩;rw[List.getElem?_map,List.getElem?_eq_getElem hk];rfl
theorem zgg (U g m:Nat)(n:Int)(w:World)(hT:zgf w U g m)(hm:m≤1000000)(hn:n≤1000000000):
  Calls prog 24 #[.pointer (some ⟨g,0,none⟩),.int .i64 n] w fun e w'=>∃ k,e=.returned (.int .i64 k)∧Under n k∧zgf w' U g (m+1)∧z6t [g] w w':=by
 obtain⟨l,A,c,a,hB,ha,hR,hne,hgU⟩:=hT;have x0:w.cell? ⟨g,0,none⟩=some (.slice A l.length c):=hB.cell 0;have x1:w.cell? ⟨g,1,none⟩=some (.int .i64 a):=hB.cell 1;have f1:w.frozen? ⟨g,1,none⟩=false:=hB.frozen 1;have h1:IntKind.i64.wrap ((a:Int) * 7)=(a:Int) * 7:=by rw[IntKind.wrap_i64];omega
 obtain⟨r,hr⟩:∃ r,((a:Int) * 7).tmod 11=r:=⟨_,rfl⟩;have hrb:=zgd ((a:Int) * 7) 11 (by omega)
 rw[hr] at hrb;have h2:IntKind.i64.wrap r=r:=by rw[IntKind.wrap_i64];omega
 have HR:=hd_ hR;have HB:=hd_ hB;have HNE:=hd_ hne;have HF:=hd_ (fun v X=>zge v n X hn);have HEND:Hid (∀ X,Below w.heap.size w X→X.heap.size=w.heap.size→zgf (X.setCell ⟨g,1,none⟩ (.int .i64 ((a:Int)+1))) U g (m+1)∧z6t [g] w (X.setCell ⟨g,1,none⟩ (.int .i64 ((a:Int)+1)))):=hd_ (fun X hX hs=>by
  refine⟨⟨l,A,c,a+1,(hB.below hX hB.lt).set_ 1 _,by omega,?_,hne,hgU⟩,(z6t.below hX).trans (z6t.grown (z6u X g 1 _) (by simp))⟩
  refine Row.set_far (hR.below hX) ?_;intro e;cases A with
  | none=>cases e
  | some ad=>exact (hne ad rfl).1 (by simpa [Value.ownBlock] using e))
 have ham:a≤1000000:=by omega
 clear hB hR hne hn hrb hm ha;go_enter func24,ntmps24;go_upto_region 2 with fail;by_cases hlt:a<l.length
 ·have q:decide ((a:Int)<(l.length:Int))=true:=by simp;omega
  obtain⟨ad,rfl,hab,s0⟩:=row_at1 HR.out hlt;generalize l[a]=v at s0;have hz:(a:Int)<(l.length:Int):=by omega
  have hw3:IntKind.i64.wrap ((a:Int)+1)=(a:Int)+1:=by rw[IntKind.wrap_i64];omega
  clear hab hlt;go_quiet (fail)
  go_upto_region 3 with fail;go_quiet (fail)
  go_wp2_with fail;refine (HF.out v _).mono ?_;rintro e w' ⟨k,rfl,hk,rfl⟩;go_wp2_with fail;go_ret;exact⟨k,rfl,hk,HEND.out _ (zqq w _) rfl⟩
 ·have q:decide ((a:Int)<(l.length:Int))=false:=by simp;omega
  have q':decide (a<l.length)=false:=by simp;omega
  have hz:¬((a:Int)<(l.length:Int)):=by omega
  have hw3:IntKind.i64.wrap ((a:Int)+1)=(a:Int)+1:=by rw[IntKind.wrap_i64];omega
  clear hlt;go_quiet (fail)
  go_wp2_with fail;refine (HF.out r _).mono ?_;rintro e w' ⟨k,rfl,hk,rfl⟩;go_wp2_with fail;go_ret;exact⟨k,rfl,hk,HEND.out _ (zqq w _) rfl⟩
def zgs (D:List Rev)(p:ByteArray):Option Rev:=(zgp D p).getLast?
theorem zgv (revs:List Rev)(p:ByteArray)(k:Nat)(h:k<revs.length):zgp (revs.take (k+1)) p=zgp (revs.take k) p++(if revs[k].path=p then [revs[k]] else []):=by
 rw[List.take_succ_eq_append_getElem h,zgr];congr 1
 unfold zgp;rw[List.filter_cons];by_cases e:revs[k].path=p
 ·simp [e]
 ·simp [e]
theorem zgw (revs:List Rev)(p:ByteArray):(zgp revs p).length≤revs.length:=List.length_filter_le ..
theorem zgx (x:Rev):∀ v∈x.cells,v.oneCell'=true:=by
 intro v hv;simp only[Rev.cells,List.mem_cons,List.not_mem_nil,or_false] at hv
 rcases hv with rfl | rfl | rfl | rfl | rfl | rfl | rfl | rfl | rfl | rfl | rfl | rfl <;> rfl
def zgy (w:World)(revs:List Rev)(p:ByteArray)(e:Ending)(w':World):Prop:=∃ A c,e=.returned (.slice A (zgp revs p).length c)∧Below w.heap.size w w'∧z45 w' (.slice A (zgp revs p).length c) (zgp revs p)
theorem zgz (revs:List Rev)(p:ByteArray)(dv dr:Value)(w:World)(hR:z45 w dv revs)(hl:revs.length≤1000000):
  Calls prog 130 #[.agg #[dv,dr],.string p] w (zgy w revs p):=by
 obtain⟨Ar,cr,rfl,hcr,hmr,-⟩:=id hR;have HR:=hd_ hR;clear hR;unfold maxLen at hmr;go_enter func130,ntmps130;have hB:=z0l w [.slice Ar revs.length cr,dr] 26;have hA:Below w.heap.size w (w.alloc (.cells #[.slice Ar revs.length cr,dr] 26)):=(Below.refl _ _).alloc (Nat.le_refl _) _;go_upto_region 2 with fail;generalize w.alloc (.cells #[.slice Ar revs.length cr,dr] 26)=W1 at hB hA ⊢;obtain⟨d0,-,-,-⟩:=box2 hB;have HA:=hd_ hA;clear hA hB;go_wp2_with fail;clear d0;go_loopw [5,11] (fun u s wr=>∃(k n:Nat) (A:Option Addr) (c:Nat),s=.int .i64 k∧u=.slice A n c∧k≤revs.length∧n≤k∧Hid (n=(zgp (revs.take k) p).length∧Below W1.heap.size W1 wr∧wr.ownsRow W1.heap.size 66 12 (.slice A n c) n ((zgp (revs.take k) p).flatMap Rev.cells))) (fun _ s _=>revs.length - (intOf s).toNat)
 case atStart=>exact⟨0,0,none,0,rfl,rfl,Nat.zero_le _,Nat.le_refl _,rfl,Below.refl _ _,World.ownsRow_nil _ _ _ _⟩
 case round =>
  obtain⟨k,n,A,c,rfl,rfl,hk,hnk,HI⟩:=hrel;by_cases hlt:k<revs.length
  ·obtain⟨ad,rfl,hab,hld⟩:=z45.at_ (HR.out.below (z0r HA.out HI.out.2.1)) hlt;have HT:=hd_ (zgv revs p k hlt);generalize revs[k]=r at hld HT;obtain⟨x0,x1,x2,x3,x4,x5,x6,x7,x8,x9,x10,x11⟩:=hld;have hX:=z0l wr [.string r.path,.int .i64 r.num,.int .i64 r.chg,.int .i64 r.act,.int .i64 r.ty.base,.bool r.ty.k,.bool r.ty.l,.bool r.ty.x,.int .u64 r.sum,.int .i64 r.size,.string r.frm,.int .i64 r.fnum] 66;have hA1:Below wr.heap.size wr (wr.alloc (.cells #[.string r.path,.int .i64 r.num,.int .i64 r.chg,.int .i64 r.act,.int .i64 r.ty.base,.bool r.ty.k,.bool r.ty.l,.bool r.ty.x,.int .u64 r.sum,.int .i64 r.size,.string r.frm,.int .i64 r.fnum] 66)):=(Below.refl _ _).alloc (Nat.le_refl _) _;go_upto_region 5 with fail;clear x0 x1 x2 x3 x4 x5 x6 x7 x8 x9 x10 x11;generalize wr.alloc (.cells #[.string r.path,.int .i64 r.num,.int .i64 r.chg,.int .i64 r.act,.int .i64 r.ty.base,.bool r.ty.k,.bool r.ty.l,.bool r.ty.x,.int .u64 r.sum,.int .i64 r.size,.string r.frm,.int .i64 r.fnum] 66)=V1 at hX hA1 ⊢;obtain⟨y0,y1,y2,y3,y4,y5,y6,y7,y8,y9,y10,y11⟩:=z7z hX;by_cases hp:r.path=p
   ·have q:=ze7 r.path p;rw[decide_eq_true hp] at q;rw[if_pos hp] at HT;have HN:Hid (n=(zgp (revs.take k) p).length∧Below W1.heap.size W1 V1∧V1.ownsRow W1.heap.size 66 12 (.slice A n c) n ((zgp (revs.take k) p).flatMap Rev.cells)):=hd_ ⟨HI.out.1,z0r HI.out.2.1 hA1,z0n HI.out.2.2 hA1⟩;clear hX hA1 hp;go_wp2_with (at_builtin;refine z0k rfl rfl zgt ((z0n HN.out.2.2 ((Below.refl _ _).alloc (Nat.le_refl _) _))) rfl (z0i V1 [.string r.path,.int .i64 r.num,.int .i64 r.chg,.int .i64 r.act,.int .i64 r.ty.base,.bool r.ty.k,.bool r.ty.l,.bool r.ty.x,.int .u64 r.sum,.int .i64 r.size,.string r.frm,.int .i64 r.fnum] _ 12 1 rfl (by decide) _ rfl) rfl (HN.out.2.1.alloc HN.out.2.1.size _) (HN.out.2.1.alloc HN.out.2.1.size _).size (zgx r) (by omega) (by unfold maxLen;omega) ?_;intro A' c' w2 hown2 hbl2)
    have HO2:=hd_ hown2;have HB2:=hd_ hbl2;clear y0 y1 y2 y3 y4 y5 y6 y7 y8 y9 y10 y11 hown2 hbl2;go_wp2_with fail;go_roundw
    case rel =>
     refine⟨k+1,n+1,A',c',by go_num,rfl,by omega,by omega,?_,HB2.out,?_⟩
     ·rw[HT.out,List.length_append,List.length_singleton,← HN.out.1]
     ·rw[HT.out,List.flatMap_append,List.flatMap_cons,List.flatMap_nil,List.append_nil];exact HO2.out
    case measure=>simp [intOf];omega
   ·have q:=ze7 r.path p;rw[decide_eq_false hp] at q;rw[if_neg hp,List.append_nil] at HT;have HN:Hid (n=(zgp (revs.take (k+1)) p).length∧Below W1.heap.size W1 V1∧V1.ownsRow W1.heap.size 66 12 (.slice A n c) n ((zgp (revs.take (k+1)) p).flatMap Rev.cells)):=hd_ (by rw[HT.out];exact⟨HI.out.1,z0r HI.out.2.1 hA1,z0n HI.out.2.2 hA1⟩)
    clear hX hA1 hp HT;go_wp2_with fail;go_roundw
    case rel=>exact⟨k+1,n,A,c,by go_num,rfl,by omega,by omega,HN.out⟩
    case measure=>simp [intOf];omega
  ·have hke:k=revs.length:=by omega
   have HF:Hid (n=(zgp revs p).length∧Below W1.heap.size W1 wr∧wr.ownsRow W1.heap.size 66 12 (.slice A n c) n ((zgp revs p).flatMap Rev.cells)):=hd_ (by
    have:=HI.out;rwa [hke,List.take_length] at this)
   clear HI hke;go_wp2_with fail;go_ret;obtain⟨hn,h1,h2⟩:=HF.out;subst hn;exact⟨A,c,rfl,z0r HA.out h1,Row.of_own h2⟩
def zh0 (w:World)(o:Option Rev)(e:Ending)(w':World):Prop:=e=.returned (.tuple #[.agg #[.string (zec o).path,.int .i64 (zec o).num,.int .i64 (zec o).chg,.int .i64 (zec o).act,.int .i64 (zec o).ty.base,.bool (zec o).ty.k,.bool (zec o).ty.l,.bool (zec o).ty.x,.int .u64 (zec o).sum,.int .i64 (zec o).size,.string (zec o).frm,.int .i64 (zec o).fnum],.bool o.isSome])∧Below w.heap.size w w'
theorem zh1 (revs:List Rev)(p:ByteArray)(dv dr:Value)(w:World)(hR:z45 w dv revs)(hl:revs.length≤1000000):
  Calls prog 90 #[.agg #[dv,dr],.string p] w (zh0 w (zgs revs p)):=by
 obtain⟨Ar,cr,rfl,-⟩:=id hR;have HR:=hd_ hR;clear hR;have HLN:=hd_ (zgw revs p);go_enter func90,ntmps90;have hb0:Below w.heap.size w ((w.alloc (.cells #[.slice Ar revs.length cr,dr] 26)).alloc (.cells #[.string ⟨#[]⟩,.int .i64 0,.int .i64 0,.int .i64 0,.int .i64 0,.bool false,.bool false,.bool false,.int .u64 0,.int .i64 0,.string ⟨#[]⟩,.int .i64 0] 66)):=((Below.refl _ _).alloc (Nat.le_refl _) _).alloc (by simp) _
 have hZ:Blk ((w.alloc (.cells #[.slice Ar revs.length cr,dr] 26)).alloc (.cells #[.string ⟨#[]⟩,.int .i64 0,.int .i64 0,.int .i64 0,.int .i64 0,.bool false,.bool false,.bool false,.int .u64 0,.int .i64 0,.string ⟨#[]⟩,.int .i64 0] 66)) (w.heap.size+1) 66 [.string ⟨#[]⟩,.int .i64 0,.int .i64 0,.int .i64 0,.int .i64 0,.bool false,.bool false,.bool false,.int .u64 0,.int .i64 0,.string ⟨#[]⟩,.int .i64 0]:=by
  have h1:=z0l (w.alloc (.cells #[.slice Ar revs.length cr,dr] 26)) [.string ⟨#[]⟩,.int .i64 0,.int .i64 0,.int .i64 0,.int .i64 0,.bool false,.bool false,.bool false,.int .u64 0,.int .i64 0,.string ⟨#[]⟩,.int .i64 0] 66;simp only[World.size_alloc] at h1
  exact h1
 have hB:Blk ((w.alloc (.cells #[.slice Ar revs.length cr,dr] 26)).alloc (.cells #[.string ⟨#[]⟩,.int .i64 0,.int .i64 0,.int .i64 0,.int .i64 0,.bool false,.bool false,.bool false,.int .u64 0,.int .i64 0,.string ⟨#[]⟩,.int .i64 0] 66)) w.heap.size 26 [.slice Ar revs.length cr,dr]:=(z0l w _ _).alloc _;go_upto_region 1 with fail;generalize (w.alloc (.cells #[.slice Ar revs.length cr,dr] 26)).alloc (.cells #[.string ⟨#[]⟩,.int .i64 0,.int .i64 0,.int .i64 0,.int .i64 0,.bool false,.bool false,.bool false,.int .u64 0,.int .i64 0,.string ⟨#[]⟩,.int .i64 0] 66)=W1 at hb0 hZ hB ⊢;obtain⟨d0,d1,-,-⟩:=box2 hB;have HL:=hd_ (zgz revs p (.slice Ar revs.length cr) dr W1 (HR.out.below hb0) hl);have Hb0:=hd_ hb0;have HZ:=hd_ hZ;clear hb0 hZ hB;go_wp2_with fail;refine HL.out.mono ?_;rintro e w2 ⟨A,c,rfl,hb2,hL⟩;clear d0 d1;have HB2:=hd_ hb2;have HLL:=hd_ hL;have hZ2:=HZ.out.below hb2 HZ.out.lt;obtain⟨z0,z1,z2,z3,z4,z5,z6,z7,z8,z9,z10,z11⟩:=z7z hZ2;obtain⟨y0,y1,y2,y3,y4,y5,y6,y7,y8,y9,y10,y11⟩:=zdz hZ2;clear hb2 hL HL;have HRL:Hid (zgs revs p=(zgp revs p).getLast?):=hd_ rfl;have hll:(zgp revs p).length≤revs.length:=HLN.out;generalize zgp revs p=L at HLL hll HRL ⊢;by_cases h0:L.length=0
 ·have HN:Hid (zgs revs p=none):=hd_ (by rw[HRL.out,List.length_eq_zero_iff.1 h0];rfl)
  have q:((L.length:Int) == 0)=true:=by rw[beq_iff_eq];omega
  clear h0;go_wp2_with fail;have hZ9:Blk ((((((((((((w2.setCell ⟨w.heap.size+1,0,none⟩ (.string ⟨#[]⟩)).setCell ⟨w.heap.size+1,1,none⟩ (.int .i64 0)).setCell ⟨w.heap.size+1,2,none⟩ (.int .i64 0)).setCell ⟨w.heap.size+1,3,none⟩ (.int .i64 0)).setCell ⟨w.heap.size+1,4,none⟩ (.int .i64 0)).setCell ⟨w.heap.size+1,5,none⟩ (.bool false)).setCell ⟨w.heap.size+1,6,none⟩ (.bool false)).setCell ⟨w.heap.size+1,7,none⟩ (.bool false)).setCell ⟨w.heap.size+1,8,none⟩ (.int .u64 0)).setCell ⟨w.heap.size+1,9,none⟩ (.int .i64 0)).setCell ⟨w.heap.size+1,10,none⟩ (.string ⟨#[]⟩)).setCell ⟨w.heap.size+1,11,none⟩ (.int .i64 0)) (w.heap.size+1) 66 [.string ⟨#[]⟩,.int .i64 0,.int .i64 0,.int .i64 0,.int .i64 0,.bool false,.bool false,.bool false,.int .u64 0,.int .i64 0,.string ⟨#[]⟩,.int .i64 0]:=ze0 hZ2 z2m;have hB9:Below w.heap.size w ((((((((((((w2.setCell ⟨w.heap.size+1,0,none⟩ (.string ⟨#[]⟩)).setCell ⟨w.heap.size+1,1,none⟩ (.int .i64 0)).setCell ⟨w.heap.size+1,2,none⟩ (.int .i64 0)).setCell ⟨w.heap.size+1,3,none⟩ (.int .i64 0)).setCell ⟨w.heap.size+1,4,none⟩ (.int .i64 0)).setCell ⟨w.heap.size+1,5,none⟩ (.bool false)).setCell ⟨w.heap.size+1,6,none⟩ (.bool false)).setCell ⟨w.heap.size+1,7,none⟩ (.bool false)).setCell ⟨w.heap.size+1,8,none⟩ (.int .u64 0)).setCell ⟨w.heap.size+1,9,none⟩ (.int .i64 0)).setCell ⟨w.heap.size+1,10,none⟩ (.string ⟨#[]⟩)).setCell ⟨w.heap.size+1,11,none⟩ (.int .i64 0)):=ze1 (z0r Hb0.out HB2.out) (show w.heap.size≤w.heap.size+1 by omega) z2m
  generalize ((((((((((((w2.setCell ⟨w.heap.size+1,0,none⟩ (.string ⟨#[]⟩)).setCell ⟨w.heap.size+1,1,none⟩ (.int .i64 0)).setCell ⟨w.heap.size+1,2,none⟩ (.int .i64 0)).setCell ⟨w.heap.size+1,3,none⟩ (.int .i64 0)).setCell ⟨w.heap.size+1,4,none⟩ (.int .i64 0)).setCell ⟨w.heap.size+1,5,none⟩ (.bool false)).setCell ⟨w.heap.size+1,6,none⟩ (.bool false)).setCell ⟨w.heap.size+1,7,none⟩ (.bool false)).setCell ⟨w.heap.size+1,8,none⟩ (.int .u64 0)).setCell ⟨w.heap.size+1,9,none⟩ (.int .i64 0)).setCell ⟨w.heap.size+1,10,none⟩ (.string ⟨#[]⟩)).setCell ⟨w.heap.size+1,11,none⟩ (.int .i64 0))=W9 at hZ9 hB9 ⊢;obtain⟨e0,e1,e2,e3,e4,e5,e6,e7,e8,e9,e10,e11⟩:=z7z hZ9;exact bodyPost_ret (v:=.tuple #[.agg #[.string ⟨#[]⟩,.int .i64 0,.int .i64 0,.int .i64 0,.int .i64 0,.bool false,.bool false,.bool false,.int .u64 0,.int .i64 0,.string ⟨#[]⟩,.int .i64 0],.bool false]) (by simp [results,results90,go_sem,e0,e1,e2,e3,e4,e5,e6,e7,e8,e9,e10,e11]) rfl ⟨by rw[HN.out];rfl,hB9⟩
 ·have hk:L.length - 1<L.length:=by omega
  obtain⟨ad,rfl,hab,hld⟩:=z45.at_ HLL.out hk;have HN:Hid (zgs revs p=some L[L.length - 1]):=hd_ (by rw[HRL.out,List.getLast?_eq_getElem?,List.getElem?_eq_getElem hk])
  have q:((L.length:Int) == 0)=false:=by rw[beq_eq_false_iff_ne];omega
  obtain⟨j,hj⟩:∃ j:Nat,j=L.length - 1:=⟨_,rfl⟩;have hjz:(L.length:Int) - 1=(j:Int):=by omega
  have hjl:(j:Int)<(L.length:Int):=by omega
  have hj0:0≤(j:Int):=by omega
  generalize L[L.length - 1]=r at hld HN;rw[← hj] at hld;obtain⟨x0,x1,x2,x3,x4,x5,x6,x7,x8,x9,x10,x11⟩:=hld;clear h0 hk hj;go_wp2_with fail;have hZ9:=ze0 hZ2 r;have hB9:=ze1 (z0r Hb0.out HB2.out) (show w.heap.size≤w.heap.size+1 by omega) r
  generalize ((((((((((((w2.setCell ⟨w.heap.size+1,0,none⟩ (.string r.path)).setCell ⟨w.heap.size+1,1,none⟩ (.int .i64 r.num)).setCell ⟨w.heap.size+1,2,none⟩ (.int .i64 r.chg)).setCell ⟨w.heap.size+1,3,none⟩ (.int .i64 r.act)).setCell ⟨w.heap.size+1,4,none⟩ (.int .i64 r.ty.base)).setCell ⟨w.heap.size+1,5,none⟩ (.bool r.ty.k)).setCell ⟨w.heap.size+1,6,none⟩ (.bool r.ty.l)).setCell ⟨w.heap.size+1,7,none⟩ (.bool r.ty.x)).setCell ⟨w.heap.size+1,8,none⟩ (.int .u64 r.sum)).setCell ⟨w.heap.size+1,9,none⟩ (.int .i64 r.size)).setCell ⟨w.heap.size+1,10,none⟩ (.string r.frm)).setCell ⟨w.heap.size+1,11,none⟩ (.int .i64 r.fnum))=W9 at hZ9 hB9 ⊢;obtain⟨e0,e1,e2,e3,e4,e5,e6,e7,e8,e9,e10,e11⟩:=z7z hZ9;exact bodyPost_ret (v:=.tuple #[.agg #[.string r.path,.int .i64 r.num,.int .i64 r.chg,.int .i64 r.act,.int .i64 r.ty.base,.bool r.ty.k,.bool r.ty.l,.bool r.ty.x,.int .u64 r.sum,.int .i64 r.size,.string r.frm,.int .i64 r.fnum],.bool true]) (by simp [results,results90,go_sem,e0,e1,e2,e3,e4,e5,e6,e7,e8,e9,e10,e11]) rfl ⟨by rw[HN.out];rfl,hB9⟩
def zjv (w:World)(B:Nat)(v:Value)(l:List Syn):Prop:=w.ownsRow B 48 5 v l.length (l.flatMap Syn.cells)
def zjw (q:Int)(x:Syn):Syn:={ x with kind:=q }
theorem zjx (q:Int):∀(l:List Syn) (k:Nat) (hk:k<l.length),(l.set k (zjw q l[k])).flatMap Syn.cells=(l.flatMap Syn.cells).set (k * 5) (.int .i64 q)
 | [],k,hk=>absurd hk (by simp)
 | x :: r,0,_=>rfl
 | x :: r,k+1,hk=>by
  have ih:=zjx q r k (by simpa using hk)
  have e:(k+1) * 5=k * 5+5:=by omega
  rw[List.getElem_cons_succ,List.set_cons_succ,List.flatMap_cons,List.flatMap_cons,ih,e];rfl
theorem zjv.slice {w:World}{B:Nat}{v:Value}{l:List Syn}(h:zjv w B v l)(hk:0<l.length):∃ g c,v=.slice (some ⟨g,0,none⟩) l.length c∧B≤g∧g<w.heap.size:=by
 obtain⟨-,h2 | ⟨g,cap,cur,e1,h3,h4,-⟩⟩:=h
 ·omega
 ·exact⟨g,cap,e1,h3,(Array.getElem?_eq_some_iff.1 h4).1⟩
theorem zjv.cell {w:World}{B g c n:Nat}{l:List Syn}(h:zjv w B (.slice (some ⟨g,0,none⟩) n c) l){k:Nat}(hk:k<l.length):
  z50 w ⟨g,k * 5,none⟩ l[k]∧w.frozen? ⟨g,k * 5,none⟩=false:=by
 have hn:n=l.length:=by
  obtain⟨A,c',e⟩:=z0o h;injection e
 subst hn;have hat:∀ j u,j<5→l[k].cells[j]? = some u→(l.flatMap Syn.cells)[k * 5+j]? = some u:=by
  intro j u hj hu;rw[z44 Syn.cells 5 (fun _=>rfl) l k j hk hj];exact hu
 have h0:=zac h (j:=k * 5) (hat 0 _ (by omega) rfl)
 exact⟨⟨h0.1,(zac h (j:=k * 5+1) (hat 1 _ (by omega) rfl)).1,(zac h (j:=k * 5+2) (hat 2 _ (by omega) rfl)).1,(zac h (j:=k * 5+3) (hat 3 _ (by omega) rfl)).1,(zac h (j:=k * 5+4) (hat 4 _ (by omega) rfl)).1⟩,h0.2.1⟩
theorem zjv.put {w:World}{B g c n:Nat}{l:List Syn}(h:zjv w B (.slice (some ⟨g,0,none⟩) n c) l){k:Nat}(hk:k<l.length)(q:Int):
  zjv (w.setCell ⟨g,k * 5,none⟩ (.int .i64 q)) B (.slice (some ⟨g,0,none⟩) n c) (l.set k (zjw q l[k])):=by
 have hn:n=l.length:=by
  obtain⟨A,c',e⟩:=z0o h;injection e
 subst hn;unfold zjv;rw[List.length_set,zjx q l k hk];exact zab h _
def zk1 (w:World)(base:Nat)(e:TypeId)(size:Nat)(v:Value)(n:Nat)(xs:List Value):Prop:=
  xs.length=n * size ∧
  ((v=.slice none 0 0∧n=0) ∨
   ∃ g off cap cur,v=.slice (some ⟨g,off,none⟩) n cap∧base≤g∧w.heap[g]? = some (.cells cur e (0,0))∧n≤cap∧cap≤maxLen∧off+cap * size≤cur.size∧(cur.toList.drop off).take (n * size)=xs)
section
variable {w w' : World} {base : Nat} {e : TypeId} {size n : Nat} {v : Value} {xs : List Value}
theorem zk1.of_own (h:w.ownsRow base e size v n xs):zk1 w base e size v n xs:=by
  refine⟨h.1,?_⟩;rcases h.2 with h2 | ⟨g,cap,cur,e1,h3,h4,h5,h6,h7,h8⟩
  · exact .inl h2
  · exact .inr ⟨g,0,cap,cur,e1,h3,h4,h5,h6,by omega,by rw[List.drop_zero];exact h8⟩
theorem zk1.lt (h:zk1 w base e size v n xs):∀ k,v.ownBlock=some k→base≤k∧k<w.heap.size:=by
  intro k hk;rcases h.2 with⟨rfl,_⟩ | ⟨g,off,cap,cur,rfl,hb,hg,_⟩
  · cases hk
  · injection hk with hk
    subst hk;exact⟨hb,(Array.getElem?_eq_some_iff.1 hg).1⟩
theorem zk1.keepAt (h:zk1 w base e size v n xs)(hk:∀ x,v.ownBlock=some x→w'.heap[x]? = w.heap[x]?):zk1 w' base e size v n xs:=by
  refine⟨h.1,?_⟩;rcases h.2 with h2 | ⟨g,off,cap,cur,e1,h3,h4,h5⟩
  · exact .inl h2
  · exact .inr ⟨g,off,cap,cur,e1,h3,(hk g (by rw[e1];rfl)).trans h4,h5⟩
theorem zk1.below (h:zk1 w base e size v n xs)(hb:Below w.heap.size w w'):zk1 w' base e size v n xs:=h.keepAt fun x hx=>hb.block x (h.lt x hx).2
theorem zk1.setCell (h:zk1 w base e size v n xs){p:Addr}(hne:v.ownBlock≠some p.block)(u:Value):zk1 (w.setCell p u) base e size v n xs:=
  h.keepAt fun x hx=>Below.heap_setCell w p u x fun e=>hne (by rw[hx,← e])
theorem zk1.row (h:zk1 w base e size v n xs):Row w size v n xs:=by
  have hl:=h.1;rcases h.2 with⟨rfl,rfl⟩ | ⟨g,off,cap,cur,rfl,_,hg,hnc,hcm,hs,ht⟩
  · exact⟨none,0,rfl,Nat.le_refl _,by simp [maxLen],hl,fun _=>rfl,fun h=>absurd h (by omega)⟩
  · refine⟨_,cap,rfl,hnc,hcm,hl,fun h=>(by cases h),fun _=>⟨_,rfl,(Array.getElem?_eq_some_iff.1 hg).1,fun j u hu=>?_⟩⟩
    rw[Addr.add_lit,cell_of_row w g _ cur e (0,0) hg];rw[← ht,List.getElem?_take] at hu;split at hu
    · rw[List.getElem?_drop] at hu
      simpa using hu
    · cases hu
theorem zk1.tail {ad:Addr}{c:Nat}(h:zk1 w base e size (.slice (some ad) (n+1) c) (n+1) xs):zk1 w base e size (.slice (if c=1 then some ad else some ⟨ad.block,ad.off+size,none⟩) n (c - 1)) n (xs.drop size):=by
  obtain⟨hl,⟨h1,h2⟩ | ⟨g,off,cap,cur,e1,h3,h4,h5,h6,h7,h8⟩⟩:=h
  · omega
  injection e1 with e1 e2 e3
  injection e1 with e1
  subst e1 e3;have hm:(n+1) * size=n * size+size:=Nat.succ_mul n size;refine⟨by rw[List.length_drop,hl,hm];omega,.inr ?_⟩
  by_cases hc:c=1
  · have hn:n=0:=by omega
    subst hn;rw[if_pos hc];refine⟨g,off,c - 1,cur,rfl,h3,h4,by omega,by omega,by rw[hc];omega,?_⟩
    rw[Nat.zero_mul,List.take_zero];refine (List.eq_nil_of_length_eq_zero ?_).symm;rw[List.length_drop,hl];omega
  · rw[if_neg hc]
    have hcm:c * size=(c - 1) * size+size:=by
      have h9:c=(c - 1)+1:=by omega
      conv=>lhs;rw[h9,Nat.succ_mul]
    refine⟨g,off+size,c - 1,cur,rfl,h3,h4,by omega,by omega,by omega,?_⟩
    rw[← h8,hm,← List.drop_drop,List.drop_take,show n * size+size - size=n * size by omega]
theorem zk2 {P:Program}(w:World)(t ty e:TypeId)(i:TypeInfo)(ht:P.underlying t=some (.slice e))(hi:P.info? e=some i)
    (g off sLen sCap:Nat) (cur:Array Value) (hg:w.heap[g]? = some (.cells cur e (0,0)))
    (a:Addr) (m c:Nat) (news:List Value) (hl:news.length=m * i.size) (hnews:∀ j u,news[j]? = some u→w.cell? (a.add j)=some u) (h1:∀ u∈news,u.oneCell'=true)
    (hroom:sLen+m≤sCap) (hfit:off+sLen * i.size+news.length≤cur.size):
    (Builtin.append_ #[t,t] ty #[.slice (some ⟨g,off,none⟩) sLen sCap,.slice (some a) m c]).run P w =
      .ok (.slice (some ⟨g,off,none⟩) (sLen+m) sCap) (w.setRow g (cur.toList.take (off+sLen * i.size)++news++cur.toList.drop (off+sLen * i.size+news.length)).toArray):=by
  have hf:=run_firstCells_some (P:=P) w i.size m a m c news hl hnews;have hst:=run_storeCells_at P g (off+sLen * i.size) e news 0 cur w hg (by simpa using hfit) h1
  simp only[Nat.add_zero] at hst
  simp [Builtin.append_,run_underlying ht,sizeOf,typeInfo,hi,Builtin.lenOf,hroom,hf,Addr.add_lit,hst]
theorem zk3 {P:Program}{W:World}{t ty e:TypeId}{size bytes base:Nat}(he:z0e P t e size bytes){v:Value}{n:Nat}{xs:List Value}(hown:zk1 W base e size v n xs)
    {ad:Addr} {m c:Nat} {news:List Value} (hl:news.length=m * size) (hnews:∀ j u,news[j]? = some u→W.cell? (ad.add j)=some u) (h1:∀ u∈news,u.oneCell'=true) (hm:0<m) (hbytes:(n+m) * bytes≤140737488355328) (h63:n+m≤maxLen) (hbase:base≤W.heap.size):
    ∃ A' c' w',(Builtin.append_ #[t,t] ty #[v,.slice (some ad) m c]).run P W=.ok (.slice A' (n+m) c') w'∧zk1 w' base e size (.slice A' (n+m) c') (n+m) (xs++news)∧W.grownBy w' v.ownBlock ∧
      ((Value.slice A' (n+m) c').ownBlock=v.ownBlock∨(Value.slice A' (n+m) c').ownBlock=some W.heap.size):=by
  rcases hown.2 with⟨rfl,rfl⟩ | ⟨g,off,cap,cur,rfl,hbg,hg,hnc,hcm,hcs,htake⟩
  · have ho:W.ownsRow base e size (.slice none 0 0) 0 xs:=⟨hown.1,.inl ⟨rfl,rfl⟩⟩
    obtain⟨i,z,ht,hi,hz,hsize,hby,hzs,hsz⟩:=he;obtain⟨v',w',hr,h2,h3,h4,h5⟩:=run_append_own_at (P:=P) W base t ty e i z size bytes ht hi hz hsize hby hzs hsz _ 0 xs ho ad m c news hl hnews h1 h63 hbytes hbase;rcases h2.2 with⟨e1,e2⟩ | ⟨g,cap,cur,e1,_⟩
    · omega
    · subst e1
      exact⟨_,_,w',hr,zk1.of_own h2,h3,h5⟩
  · obtain⟨i,z,ht,hi,hz,hsize,hby,hzs,hsz⟩:=he
    subst hsize;subst hby;have hsmall:n+m≤9223372036854775807:=by simp only[maxLen] at h63;omega
    have hlen:(xs++news).length=(n+m) * i.size:=by rw[List.length_append,hown.1,hl,Nat.add_mul]
    by_cases hroom:n+m≤cap
    · have hmul:(n+m) * i.size≤cap * i.size:=Nat.mul_le_mul_right _ hroom
      rw[Nat.add_mul] at hmul;have hfit:off+n * i.size+news.length≤cur.size:=by omega
      have hr:=zk2 (P:=P) W t ty e i ht hi g off n cap cur hg ad m c news hl hnews h1 hroom hfit;refine⟨_,_,_,hr,⟨hlen,.inr ⟨g,off,cap,_,rfl,hbg,setRow_heap W g cur _ e _ hg,hroom,hcm,?_,?_⟩⟩,⟨rfl,rfl,rfl,by simp,fun k _ hk=>setRow_other W g k _ (fun e=>hk (by simp [Value.ownBlock,e]))⟩,Or.inl rfl⟩
      · simp only[List.size_toArray,List.length_append,List.length_take,List.length_drop,Array.length_toList]
        omega
      · have hx:cur.toList.take (off+n * i.size)=cur.toList.take off++xs:=by rw[List.take_add,htake]
        show ((cur.toList.take (off+n * i.size)++news++cur.toList.drop (off+n * i.size+news.length)).drop off).take ((n+m) * i.size)=xs++news
        rw[hx,List.append_assoc,List.append_assoc,List.drop_left' (by rw[List.length_take,Array.length_toList];omega),← List.append_assoc,← hlen]
        exact List.take_left
    · have hfit:Builtin.nextslicecap (n+m) cap * i.bytes≤281474976710656:=growslice_fits (by omega) hbytes
      have holds:∀ j u,xs[j]? = some u→W.cell? ((⟨g,off,none⟩:Addr).add j)=some u:=by
        obtain⟨A',c',e1,-,-,-,-,h9⟩:=hown.row;injection e1 with e1
        intro j u hj;rcases Nat.eq_zero_or_pos n with h0 | h0
        · have hx:xs=[]:=List.eq_nil_of_length_eq_zero (by rw[hown.1,h0];simp)
          rw[hx] at hj;simp at hj
        · obtain⟨ad',e2,-,h10⟩:=h9 h0
          rw[← e1] at e2;injection e2 with e2
          subst e2;exact h10 j u hj
      have hr:=run_append_grow (P:=P) W t ty e i z ht hi hz ⟨g,off,none⟩ n cap xs hown.1 holds ad m c news hl hnews (by omega) (by omega) hfit
      have hge:=grownCap_ge W (n+m) cap e;have hcm:=grownCap_le_maxLen W (n+m) cap e h63;refine⟨_,_,_,hr,⟨hlen,.inr ⟨W.heap.size,0,_,_,rfl,hbase,heap_alloc_new W.drew _,hge,hcm,?_,?_⟩⟩,⟨rfl,rfl,rfl,by simp,fun k hk _=>heap_alloc_old W.drew _ hk⟩,Or.inr rfl⟩
      · simp only[Array.size_append,List.size_toArray,size_zeroCells,hzs,hown.1,hl,← Nat.add_mul]
        refine Nat.le_of_eq ?_;rw[Nat.zero_add];congr 1
        omega
      · rw[List.drop_zero]
        simp only[Array.toList_append,List.append_assoc]
        rw[← List.append_assoc,← hlen];exact List.take_left
end
open Go.Sort (grow)
section
variable {u0 u1 u2 u3 u4 u5 u6 u7 u8 u9 gn gt gu gx gy gz gA gC gD gE gF gG gH gI gJ gK gL gM gN gO gP gQ gR gT gV gW gX gY gZ i6 i7 i8 ia ib ic ie ig ii ij ik il im io ip iq ir iu iv iw ix iy iz iA iB iC iD iE iF iG iH iI iJ iK iL iM iN iO iP iQ iR iS iT iU iV iW iX iY iZ j0 j1 j2 j5 j6 j7 j8 j9 jb jd je jf bw bz bA bB bD bE bF bG bH bI bJ bK bL bM bN bO bP bQ bT bU bV bW bX bY bZ ca cj : Value}
theorem zkz {P:Program}{W:World}{ops:Array Oper}{o:Oper}{a:Act}{K:Act→World→Prop}{Q:Exit→Act→World→Prop}{E:Prop}(hgd:o.guard=none){s x:Operand}{t:TypeId}
  (ho:o.op=.call { callee:=.builtin .append,args:=#[s,x],argTypes:=#[t,t] })
  {e:TypeId} {size bytes base:Nat} (he:z0e P t e size bytes) {v:Value} {n:Nat} {xs:List Value} (hown:zk1 W base e size v n xs) (hs:a.eval s=v)
  {ad:Addr} {m c:Nat} {news:List Value} (hx:a.eval x=.slice (some ad) m c) (hl:news.length=m * size) (hnews:∀ j u,news[j]? = some u→W.cell? (ad.add j)=some u) (h1:∀ u∈news,u.oneCell'=true) (hm:0<m) (hbytes:(n+m) * bytes≤140737488355328) (h63:n+m≤maxLen) (hbase:base≤W.heap.size)
  (h:∀ A' c' w',zk1 w' base e size (.slice A' (n+m) c') (n+m) (xs++news)→W.grownBy w' v.ownBlock →
   ((Value.slice A' (n+m) c').ownBlock=v.ownBlock∨(Value.slice A' (n+m) c').ownBlock=some W.heap.size)→K (a.put o.dst (.slice A' (n+m) c')) w'):
  if Region.wanted o (yielded ops a.tmps)=true then Oper.wp P o a W K Q else E:=by
 have hw:Region.wanted o (yielded ops a.tmps)=true:=by simp [Region.wanted,hgd]
 rw[if_pos hw];obtain⟨A',c',w',hrun,h2,h3,h4⟩:=zk3 (ty:=o.type) he hown hl hnews h1 hm hbytes h63 hbase;unfold Oper.wp execOp;simp only[ho,resolve,invoke,builtin,Sem.run_bind,Sem.run_pure,Result.andThen_ok,List.map_toArray,List.map_cons,List.map_nil,hs,hx]
 rw[hrun];exact h A' c' w' h2 h3 h4
theorem zl0 (W:World)(cs:List Value)(t:TypeId):∀ j u,cs[j]? = some u→(W.alloc (.cells cs.toArray t)).cell? ((⟨W.heap.size,0,none⟩:Addr).add j)=some u:=by
 intro j u hu;rw[Addr.add_lit,World.cell?_alloc_mark];simpa using hu
def zl1 (V w':World)(v:Value):Prop:=∃ Y,Below V.heap.size V Y∧Y.grownBy w' v.ownBlock
theorem zl1.block {V w':World}{v:Value}(h:zl1 V w' v){k:Nat}(hk:k<V.heap.size)(hne:v.ownBlock≠some k):w'.heap[k]? = V.heap[k]?:=by
 obtain⟨Y,h1,h2⟩:=h;exact (h2.block k (Nat.lt_of_lt_of_le hk h1.size) (fun e=>hne e.symm)).trans (h1.block k hk)
theorem zl1.size {V w':World}{v:Value}(h:zl1 V w' v):V.heap.size≤w'.heap.size:=by
 obtain⟨Y,h1,h2⟩:=h;exact Nat.le_trans h1.size h2.size
theorem zl1.low {V w' X:World}{v:Value}{B:Nat}(h:zl1 V w' v)(hX:Below B X V)(hB:B≤V.heap.size)(hv:∀ k,v.ownBlock=some k→B≤k):Below B X w':=by
 obtain⟨Y,h1,h2⟩:=h;exact (hX.trans (h1.mono hB)).grown h2 (Nat.le_trans hB h1.size) hv
theorem bkR26 (ops:Array Oper)(hops:Tryz.f38.body.bind (zci 26)=some ops)(Q:Exit→Act→World→Prop)(V1:World)(g n c i nq cq B2:Nat)(Aq:Option Addr)(xs:List Value)(p f:ByteArray)
  (hq:zk1 V1 B2 44 3 (.slice Aq nq cq) nq xs) (hp1:V1.cell? ⟨g,i * 5+1,none⟩=some (.string p)) (hp3:V1.cell? ⟨g,i * 5+3,none⟩=some (.string f)) (hi:i<n) (hB2:B2≤V1.heap.size) (hg:g<B2) (hnq:nq≤2000000)
  (hQ:∀(ao ap aq ar au aw ax ay az aA aB aC aD aE:Value) (A':Option Addr) (c':Nat) (w':World),Hid (zk1 w' B2 44 3 (.slice A' (nq+1) c') (nq+1) (xs++[.string p,.int .i64 0,.string f])∧zl1 V1 w' (.slice Aq nq cq)∧((Value.slice A' (nq+1) c').ownBlock=(Value.slice Aq nq cq).ownBlock∨∃ x,(Value.slice A' (nq+1) c').ownBlock=some x∧V1.heap.size≤x))→Q .normal ⟨#[u0,.slice (some ⟨g,0,none⟩) n c,u2,u3,u4,u5,u6,u7,.slice A' (nq+1) c',u9,gn,gt,gu,gx,gy,.int .i64 i,gA,gC,gD,gE,gF,gG,gH,gI,gJ,gK,gL,gM,gN,gO,gP,gQ,gR,gT,gV,gW,gX,gY,gZ,i6,i7,i8,ia,ib,ic,ie,ig,ii,ij,ik,il,im,io,ip,iq,ir,iu,iv,iw,ix,iy,iz,iA,iB,iC,iD,iE,iF,iG,iH,iI,iJ,iK,iL,iM,iN,iO,iP,iQ,iR,iS,iT,iU,iV,iW,iX,iY,iZ,j0,j1,j2,j5,j6,j7,j8,j9,jb,jd,je,jf,bw,bz,bA,bB,bD,bE,bF,bG,bH,bI,bJ,bK,ao,ap,aq,ar,au,aw,ax,ay,az,aA,aB,aC,aD,aE,cj],[]⟩ w'):
  (Code.region 26 ops true).wp prog Q ⟨#[u0,.slice (some ⟨g,0,none⟩) n c,u2,u3,u4,u5,u6,u7,.slice Aq nq cq,u9,gn,gt,gu,gx,gy,.int .i64 i,gA,gC,gD,gE,gF,gG,gH,gI,gJ,gK,gL,gM,gN,gO,gP,gQ,gR,gT,gV,gW,gX,gY,gZ,i6,i7,i8,ia,ib,ic,ie,ig,ii,ij,ik,il,im,io,ip,iq,ir,iu,iv,iw,ix,iy,iz,iA,iB,iC,iD,iE,iF,iG,iH,iI,iJ,iK,iL,iM,iN,iO,iP,iQ,iR,iS,iT,iU,iV,iW,iX,iY,iZ,j0,j1,j2,j5,j6,j7,j8,j9,jb,jd,je,jf,bw,bz,bA,bB,bD,bE,bF,bG,bH,bI,bJ,bK,bL,bM,bN,bO,bP,bQ,bT,bU,bV,bW,bX,bY,bZ,ca,cj],[]⟩ V1:=by
 simp only[Tryz.f38,Option.bind_some,zci] at hops
 simp at hops
 subst hops;have HQ:=hd_ hQ;have HQU:=hd_ hq;have hda:Below V1.heap.size V1 (V1.alloc (.cells #[.string p,.int .i64 0,.string f] 44)).drew:=(zcf (Below.refl _ _) _).drew;have HDA:=hd_ hda;have HSZ:Hid (B2≤(V1.alloc (.cells #[.string p,.int .i64 0,.string f] 44)).drew.heap.size):=hd_ (Nat.le_trans hB2 hda.size);have HN:Hid (∀ j u,[Value.string p,Value.int .i64 0,Value.string f][j]? = some u→(V1.alloc (.cells #[.string p,.int .i64 0,.string f] 44)).drew.cell? ((⟨V1.heap.size,0,none⟩:Addr).add j)=some u):=hd_ (zl0 V1 _ _);clear hQ hq hda hB2 hg;refine wp_region_noPanic ?_;go_region_law (first
  | (refine zkz (base:=B2) rfl rfl z54 (HQU.out.below HDA.out) (by simp [Act.eval,Act.put];done) (ad:=⟨V1.heap.size,0,none⟩) (m:=1) (c:=1) (by simp [Act.eval,Act.put];done) (news:=[.string p,.int .i64 0,.string f]) rfl HN.out (by simp [Value.oneCell']) (by omega) (by omega) (by unfold maxLen;omega) HSZ.out ?_;intro A6 c6 w6 hO6 hG6 hw6))
 all_goals exact NoPanic.normal (HQ.out _ _ _ _ _ _ _ _ _ _ _ _ _ _ _ _ _ (hd_ ⟨hO6,⟨_,HDA.out,hG6⟩,hw6.imp id (fun e=>⟨_,e,HDA.out.size⟩)⟩))
end
theorem znl {p:Pat}(h:z7e p=0):p.parts.length≤12:=by
 unfold z7e at h;split at h
 ·cases h
 ·split at h
  ·cases h
  ·split at h
   ·cases h
   ·omega
theorem znm (p q:Pat)(A B:Option Addr)(a b:Nat)(w:World)(hp:za9 w (.slice A p.parts.length a) p)(hq:za9 w (.slice B q.parts.length b) q)(hpr:p.rest=true)(hqr:q.rest=true)(hpe:z7e p=0)(hqe:z7e q=0)(hw:WiOk p q):
  Calls prog 221 #[.agg #[.slice A p.parts.length a,.bool true],.agg #[.slice B q.parts.length b,.bool true]] w fun e w'=>e=.returned (.bool true)∧Below w.heap.size w w':=by
 have hA:Below w.heap.size w ((w.alloc (.cells #[.slice A p.parts.length a,.bool true] 97)).alloc (.cells #[.slice B q.parts.length b,.bool true] 97)):=((Below.refl _ _).alloc (Nat.le_refl _) _).alloc (by simp) _
 have h2:zbo ((w.alloc (.cells #[.slice A p.parts.length a,.bool true] 97)).alloc (.cells #[.slice B q.parts.length b,.bool true] 97)) w.heap.size (.slice A p.parts.length a) true:=(z0l w [.slice A p.parts.length a,.bool true] 97).alloc _;have h3:zbo ((w.alloc (.cells #[.slice A p.parts.length a,.bool true] 97)).alloc (.cells #[.slice B q.parts.length b,.bool true] 97)) (w.heap.size+1) (.slice B q.parts.length b) true:=by
  have:=z0l (w.alloc (.cells #[.slice A p.parts.length a,.bool true] 97)) [.slice B q.parts.length b,.bool true] 97;rw[World.size_alloc] at this;exact this
 have HCP:=hd_ (fun X (hX:Below w.heap.size w X)=>zca p A a X (hp.below hX).1 hp.small);have HCQ:=hd_ (fun X (hX:Below w.heap.size w X)=>zca q B b X (hq.below hX).1 hq.small);rw[hpe,hpr] at HCP;rw[hqe,hqr] at HCQ;have HIN:Hid (∀(k:Nat) (h:k<q.parts.length) (h2:k<p.parts.length) X,Calls prog 223 #[.string p.parts[k],.string q.parts[k]] X fun e w'=>e=.returned (.bool true)∧Below X.heap.size X w'):=hd_ fun k h h2 X=>by
  have:=zme p.parts[k] q.parts[k] X (zcc hpe _) (zcc hqe h) (hp.2 _ (List.getElem_mem _)) (hq.2 _ (List.getElem_mem h));rw[hw.all k h] at this;exact this
 have HP:=hd_ hp;have HQ:=hd_ hq;have hle:=hw.le;have hq12:=znl hqe;have q1:decide ((p.parts.length:Int)<(q.parts.length:Int))=false:=by simp;omega
 clear hp hq hpe hqe hpr hqr hw;go_enter func221,ntmps221;go_upto_region 1 with fail;generalize (w.alloc (.cells #[.slice A p.parts.length a,.bool true] 97)).alloc (.cells #[.slice B q.parts.length b,.bool true] 97)=W1 at hA h2 h3 ⊢;have x0:=h2.c0;have x1:=h2.c1;have y0:=h3.c0;have y1:=h3.c1;have H:=hd_ (And.intro hA (And.intro h2 h3));have HC1:=hd_ (HCP.out W1 hA);clear hA h2 h3;go_wp2_with fail;refine HC1.out.mono ?_;rintro e w2 ⟨rfl,hb⟩;dsimp only;have HB:=hd_ (z0r H.out.1 hb);have HG:=hd_ (And.intro (H.out.2.1.low hb) (H.out.2.2.low hb));have HC2:=hd_ (HCQ.out w2 HB.out);clear hb x0 x1 y0 y1;have x0:=HG.out.1.c0;have x1:=HG.out.1.c1;have y0:=HG.out.2.c0;have y1:=HG.out.2.c1;go_wp2_with fail;refine HC2.out.mono ?_;rintro e w3 ⟨rfl,hb⟩;dsimp only;have HB3:=hd_ (z0r HB.out hb);have HG3:=hd_ (And.intro (HG.out.1.low hb) (HG.out.2.low hb));clear hb x0 x1 y0 y1;have x0:=HG3.out.1.c0;have x1:=HG3.out.1.c1;have y0:=HG3.out.2.c0;have y1:=HG3.out.2.c1;obtain⟨cc,hcc⟩:∃ cc,((p.parts.length:Int) == (q.parts.length:Int))=cc:=⟨_,rfl⟩;cases cc
 all_goals
  go_wp2_with fail;clear x0 x1 y0 y1 hcc;go_loopw [59] (fun i wr=>∃ k:Nat,i=.int .i64 k∧k≤q.parts.length∧Hid (Below w3.heap.size w3 wr)) (fun i _=>q.parts.length - (intOf i).toNat)
  case atStart=>exact⟨0,rfl,Nat.zero_le _,hd_ (Below.refl _ _)⟩
  case round =>
   obtain⟨k,rfl,hk,HI⟩:=hrel;by_cases hlt:k<q.parts.length
   ·obtain⟨ad,rfl,hab,s0⟩:=Strs.at_ (HQ.out.below (z0r HB3.out HI.out)).1 hlt;obtain⟨ad2,rfl,hab2,s1⟩:=Strs.at_ (HP.out.below (z0r HB3.out HI.out)).1 (Nat.lt_of_lt_of_le hlt hle);have HCI:=hd_ (HIN.out k hlt (Nat.lt_of_lt_of_le hlt hle) wr);have hlt2:=Nat.lt_of_lt_of_le hlt hle;have x0:=(HG3.out.1.low HI.out).c0;have HLT:=hd_ hlt;generalize q.parts[k]=u at s0 HCI;generalize p.parts[k]=v at s1 HCI;go_wp2_with fail;refine HCI.out.mono ?_;rintro e w4 ⟨rfl,hb⟩;dsimp only;have HB4:=hd_ (z0r HI.out hb);clear hb s0 s1 x0;go_wp2_with fail;go_roundw
    case rel=>exact⟨k+1,by go_num,by have:=HLT.out;omega,HB4⟩
    case measure=>have:=HLT.out;simp [intOf];omega
   ·have hke:k=q.parts.length:=by omega
    have HB5:=hd_ (z0r HB3.out HI.out);subst hke;go_wp2_with fail;go_ret;exact⟨rfl,HB5.out⟩
end Go.Proofs.YtegeboijhifmcaaGreatDoor
