/- z30 at At and Last. -/
import Derived.Test.YtegeboijhifmcaaGreatDoorMgw3
import Derived.Test.YtegeboijhifmcaaGreatDoorMgw13
import Derived.Test.YtegeboijhifmcaaGreatDoorMgw6
import Derived.Test.YtegeboijhifmcaaGreatDoorMgw11
import Derived.Test.YtegeboijhifmcaaGreatDoorMgw10
import Derived.Test.YtegeboijhifmcaaGreatDoorMgw14
import Derived.Test.YtegeboijhifmcaaGreatDoorMgw17
import Derived.Deep.CutBlock
import Derived.StillTailTactics
import Derived.Deep.RegionLaw
namespace Go.Proofs.YtegeboijhifmcaaGreatDoor
set_option linter.unusedVariables false
set_option linter.unusedSimpArgs false
set_option maxHeartbeats 8000000
set_option maxRecDepth 100000
open Go.RowKit
theorem at_fn (m:Int)(B:Nat)(r:Rev)(w:World)(hB:w.cell? ⟨B,0,none⟩=some (.int .i64 m)):Calls Tryz.prog 51 #[.agg #[.string r.path,.int .i64 r.num,.int .i64 r.chg,.int .i64 r.act,.int .i64 r.ty.base,.bool r.ty.k,.bool r.ty.l,.bool r.ty.x,.int .u64 r.sum,.int .i64 r.size,.string r.frm,.int .i64 r.fnum],.pointer (some ⟨B,0,none⟩)] w fun e w'=>e=.returned (.bool ((fun v:Rev=>decide (v.chg≤m)) r))∧Below w.heap.size w w':=by
 have hBl:=z03 hB;go_enter Tryz.func51,Tryz.ntmps51;go_wp2_with fail;go_ret;exact⟨z0w (rfl),(Below.refl _ _).alloc (Nat.le_refl _) _⟩
theorem zed (revs:List Rev)(q:ByteArray)(m:Int)(B:Nat)(dv dr:Value)(w:World)(hR:z45 w dv revs)(hB:w.cell? ⟨B,0,none⟩=some (.int .i64 m))(hl:revs.length≤1000000):
  Calls Tryz.prog 50 #[.agg #[dv,dr],.string q,.func (.func 51) #[] #[.pointer (some ⟨B,0,none⟩)]] w
   fun e w'=>e=.returned (.tuple #[.agg #[.string (zec (z30 revs q (fun v:Rev=>decide (v.chg≤m)))).path,.int .i64 (zec (z30 revs q (fun v:Rev=>decide (v.chg≤m)))).num,.int .i64 (zec (z30 revs q (fun v:Rev=>decide (v.chg≤m)))).chg,.int .i64 (zec (z30 revs q (fun v:Rev=>decide (v.chg≤m)))).act,.int .i64 (zec (z30 revs q (fun v:Rev=>decide (v.chg≤m)))).ty.base,.bool (zec (z30 revs q (fun v:Rev=>decide (v.chg≤m)))).ty.k,.bool (zec (z30 revs q (fun v:Rev=>decide (v.chg≤m)))).ty.l,.bool (zec (z30 revs q (fun v:Rev=>decide (v.chg≤m)))).ty.x,.int .u64 (zec (z30 revs q (fun v:Rev=>decide (v.chg≤m)))).sum,.int .i64 (zec (z30 revs q (fun v:Rev=>decide (v.chg≤m)))).size,.string (zec (z30 revs q (fun v:Rev=>decide (v.chg≤m)))).frm,.int .i64 (zec (z30 revs q (fun v:Rev=>decide (v.chg≤m)))).fnum],.bool (z30 revs q (fun v:Rev=>decide (v.chg≤m))).isSome])∧Below w.heap.size w w':=by
 obtain⟨Ar,cr,rfl,hcr,hmr,-⟩:=id hR;have HR:=hd_ hR;clear hR;unfold maxLen at hmr;rw[zeb];have HF:=hd_ (fun(r:Rev) (W:World) (hb:Below w.heap.size w W)=>at_fn m B r W (z04 hB hb (z03 hB)));have hb0:Below w.heap.size w (((w.alloc (.cells #[.slice Ar revs.length cr,dr] 26)).alloc (.cells #[.string ⟨#[]⟩,.int .i64 0,.int .i64 0,.int .i64 0,.int .i64 0,.bool false,.bool false,.bool false,.int .u64 0,.int .i64 0,.string ⟨#[]⟩,.int .i64 0] 66)).alloc (.cells #[.string ⟨#[]⟩,.int .i64 0,.int .i64 0,.int .i64 0,.int .i64 0,.bool false,.bool false,.bool false,.int .u64 0,.int .i64 0,.string ⟨#[]⟩,.int .i64 0] 66)):=(((Below.refl _ _).alloc (Nat.le_refl _) _).alloc (by simp) _).alloc (by simp;omega) _
 generalize (fun v:Rev=>decide (v.chg≤m))=p at HF ⊢;go_enter Tryz.func50,Tryz.ntmps50;go_wp2_with fail;go_loopw [9,15] (fun o i wr=>∃(k:Nat),k≤revs.length∧i=.int .i64 k∧Below w.heap.size w wr∧o=.bool ((revs.take k).foldl (zea q p) none).isSome∧Blk wr (w.heap.size+1) 66 [.string ⟨#[]⟩,.int .i64 0,.int .i64 0,.int .i64 0,.int .i64 0,.bool false,.bool false,.bool false,.int .u64 0,.int .i64 0,.string ⟨#[]⟩,.int .i64 0]∧Blk wr (w.heap.size+1+1) 66 [.string (zec ((revs.take k).foldl (zea q p) none)).path,.int .i64 (zec ((revs.take k).foldl (zea q p) none)).num,.int .i64 (zec ((revs.take k).foldl (zea q p) none)).chg,.int .i64 (zec ((revs.take k).foldl (zea q p) none)).act,.int .i64 (zec ((revs.take k).foldl (zea q p) none)).ty.base,.bool (zec ((revs.take k).foldl (zea q p) none)).ty.k,.bool (zec ((revs.take k).foldl (zea q p) none)).ty.l,.bool (zec ((revs.take k).foldl (zea q p) none)).ty.x,.int .u64 (zec ((revs.take k).foldl (zea q p) none)).sum,.int .i64 (zec ((revs.take k).foldl (zea q p) none)).size,.string (zec ((revs.take k).foldl (zea q p) none)).frm,.int .i64 (zec ((revs.take k).foldl (zea q p) none)).fnum]) (fun _ i _=>revs.length - (intOf i).toNat)
 case atStart =>
  refine⟨0,Nat.zero_le _,rfl,hb0,rfl,?_,?_⟩
  ·have:=z0l (w.alloc (.cells #[.slice Ar revs.length cr,dr] 26)) [.string ⟨#[]⟩,.int .i64 0,.int .i64 0,.int .i64 0,.int .i64 0,.bool false,.bool false,.bool false,.int .u64 0,.int .i64 0,.string ⟨#[]⟩,.int .i64 0] 66;have:=this.alloc (.cells #[.string ⟨#[]⟩,.int .i64 0,.int .i64 0,.int .i64 0,.int .i64 0,.bool false,.bool false,.bool false,.int .u64 0,.int .i64 0,.string ⟨#[]⟩,.int .i64 0] 66);simpa using this
  ·have:=z0l ((w.alloc (.cells #[.slice Ar revs.length cr,dr] 26)).alloc (.cells #[.string ⟨#[]⟩,.int .i64 0,.int .i64 0,.int .i64 0,.int .i64 0,.bool false,.bool false,.bool false,.int .u64 0,.int .i64 0,.string ⟨#[]⟩,.int .i64 0] 66)) [.string ⟨#[]⟩,.int .i64 0,.int .i64 0,.int .i64 0,.int .i64 0,.bool false,.bool false,.bool false,.int .u64 0,.int .i64 0,.string ⟨#[]⟩,.int .i64 0] 66;simp only[World.size_alloc] at this
   exact this
 case round =>
  obtain⟨k,hk,rfl,hbr,rfl,hZ,hF⟩:=hrel;by_cases hlt:k<revs.length
  ·obtain⟨ad,rfl,hab,hld⟩:=z45.at_ (HR.out.below hbr) hlt;have HT:=hd_ (show revs.take (k+1)=revs.take k++[revs[k]] from List.take_succ_eq_append_getElem hlt);have HG:Hid ((revs.take (k+1)).foldl (zea q p) none=zea q p ((revs.take k).foldl (zea q p) none) revs[k]):=hd_ (by rw[HT.out,List.foldl_append];rfl)
   generalize revs[k]=r at hld HT HG;generalize (revs.take k).foldl (zea q p) none=o at hF HG;obtain⟨x0,x1,x2,x3,x4,x5,x6,x7,x8,x9,x10,x11⟩:=hld;have hbx:=hbr.alloc hbr.size (.cells #[.string r.path,.int .i64 r.num,.int .i64 r.chg,.int .i64 r.act,.int .i64 r.ty.base,.bool r.ty.k,.bool r.ty.l,.bool r.ty.x,.int .u64 r.sum,.int .i64 r.size,.string r.frm,.int .i64 r.fnum] 66);have hZx:=hZ.alloc (.cells #[.string r.path,.int .i64 r.num,.int .i64 r.chg,.int .i64 r.act,.int .i64 r.ty.base,.bool r.ty.k,.bool r.ty.l,.bool r.ty.x,.int .u64 r.sum,.int .i64 r.size,.string r.frm,.int .i64 r.fnum] 66);have hFx:=hF.alloc (.cells #[.string r.path,.int .i64 r.num,.int .i64 r.chg,.int .i64 r.act,.int .i64 r.ty.base,.bool r.ty.k,.bool r.ty.l,.bool r.ty.x,.int .u64 r.sum,.int .i64 r.size,.string r.frm,.int .i64 r.fnum] 66);have hX:=z0l wr [.string r.path,.int .i64 r.num,.int .i64 r.chg,.int .i64 r.act,.int .i64 r.ty.base,.bool r.ty.k,.bool r.ty.l,.bool r.ty.x,.int .u64 r.sum,.int .i64 r.size,.string r.frm,.int .i64 r.fnum] 66;by_cases hp:r.path=q
   ·have HC:=hd_ (HF.out r (wr.alloc (.cells #[.string r.path,.int .i64 r.num,.int .i64 r.chg,.int .i64 r.act,.int .i64 r.ty.base,.bool r.ty.k,.bool r.ty.l,.bool r.ty.x,.int .u64 r.sum,.int .i64 r.size,.string r.frm,.int .i64 r.fnum] 66)) hbx);cases hpr:p r
    ·rw[hpr] at HC;have HS:Hid (zea q p o r=o):=hd_ (by unfold zea;rw[hpr];simp)
     clear hpr;subst hp;go_wp2_with fail;refine HC.out.mono ?_;rintro e w2 ⟨rfl,hb2⟩;go_wp2_with fail;go_roundw
     case rel=>exact⟨k+1,by omega,by go_num,z0r hbx hb2,by rw[HG.out,HS.out],hZx.below hb2 hZx.lt,by rw[HG.out,HS.out];exact hFx.below hb2 hFx.lt⟩
     case measure=>simp [intOf];omega
    ·rw[hpr] at HC;have hnew:∀ b:Bool,o.isSome=false∨(zec o).num<r.num→zea q p o r=some r:=by
      intro b h;unfold zea;rw[if_pos ⟨hp,hpr⟩];cases o with
      | none=>rfl
      | some x =>
       rcases h with h | h
       ·cases h
       ·exact if_pos h
     have hold:o.isSome=true→¬(zec o).num<r.num→zea q p o r=o:=by
      intro h1 h2;unfold zea;rw[if_pos ⟨hp,hpr⟩];cases o with
      | none=>cases h1
      | some x=>exact if_neg h2
     clear hpr;subst hp;by_cases hn:o.isSome=false∨(zec o).num<r.num
     ·have HS:=hd_ (hnew true hn);clear hnew hold;cases hos:o.isSome
      ·clear hn;go_wp2_with fail;refine HC.out.mono ?_;rintro e w2 ⟨rfl,hb2⟩;have hX2:=hX.below hb2 hX.lt;have hF2:=hFx.below hb2 hFx.lt;have hZ2:=hZx.below hb2 hZx.lt;have hbw2:=z0r hbx hb2;obtain⟨c0,c1,c2,c3,c4,c5,c6,c7,c8,c9,c10,c11⟩:=z7z hX2;obtain⟨f0,f1,f2,f3,f4,f5,f6,f7,f8,f9,f10,f11⟩:=z7z hF2;obtain⟨y0,y1,y2,y3,y4,y5,y6,y7,y8,y9,y10,y11⟩:=zdz hF2;clear hb2;have hF3:=ze0 hF2 r;have hB3:=ze1 hbw2 (show w.heap.size≤w.heap.size+1+1 by omega) r
       have hZ3:=far12 hZ2 (show w.heap.size+1+1≠w.heap.size+1 by omega) r
       go_wp2_with fail;go_roundw
       case rel=>exact⟨k+1,by omega,by go_num,hB3,by rw[HG.out,HS.out];rfl,hZ3,by rw[HG.out,HS.out];exact hF3⟩
       case measure=>simp [intOf];omega
      ·have hn2:(zec o).num<r.num:=by rcases hn with h | h;(rw[hos] at h;cases h);exact h
       clear hn;go_wp2_with fail;refine HC.out.mono ?_;rintro e w2 ⟨rfl,hb2⟩;have hX2:=hX.below hb2 hX.lt;have hF2:=hFx.below hb2 hFx.lt;have hZ2:=hZx.below hb2 hZx.lt;have hbw2:=z0r hbx hb2;obtain⟨c0,c1,c2,c3,c4,c5,c6,c7,c8,c9,c10,c11⟩:=z7z hX2;obtain⟨f0,f1,f2,f3,f4,f5,f6,f7,f8,f9,f10,f11⟩:=z7z hF2;obtain⟨y0,y1,y2,y3,y4,y5,y6,y7,y8,y9,y10,y11⟩:=zdz hF2;clear hb2;have hF3:=ze0 hF2 r;have hB3:=ze1 hbw2 (show w.heap.size≤w.heap.size+1+1 by omega) r
       have hZ3:=far12 hZ2 (show w.heap.size+1+1≠w.heap.size+1 by omega) r
       go_wp2_with fail;go_roundw
       case rel=>exact⟨k+1,by omega,by go_num,hB3,by rw[HG.out,HS.out];rfl,hZ3,by rw[HG.out,HS.out];exact hF3⟩
       case measure=>simp [intOf];omega
     ·rw[not_or] at hn;have hos:o.isSome=true:=by
       cases h:o.isSome
       ·exact absurd h hn.1
       ·rfl
      have hn2:¬(zec o).num<r.num:=hn.2;have HS:=hd_ (hold hos hn2);clear hnew hold hn;go_wp2_with fail;refine HC.out.mono ?_;rintro e w2 ⟨rfl,hb2⟩;have hX2:=hX.below hb2 hX.lt;have hF2:=hFx.below hb2 hFx.lt;have hZ2:=hZx.below hb2 hZx.lt;have hbw2:=z0r hbx hb2;obtain⟨c0,c1,c2,c3,c4,c5,c6,c7,c8,c9,c10,c11⟩:=z7z hX2;obtain⟨f0,f1,f2,f3,f4,f5,f6,f7,f8,f9,f10,f11⟩:=z7z hF2;clear hb2;go_wp2_with fail;go_roundw
      case rel=>exact⟨k+1,by omega,by go_num,hbw2,by rw[HG.out,HS.out,hos],hZ2,by rw[HG.out,HS.out];exact hF2⟩
      case measure=>simp [intOf];omega
   ·have HS:Hid (zea q p o r=o):=hd_ (by unfold zea;rw[if_neg (fun h=>hp h.1)])
    have sq:=ze7 r.path q;rw[show decide (r.path=q)=false by simpa using hp] at sq
    clear hp;go_wp2_with fail;go_roundw
    case rel=>exact⟨k+1,by omega,by go_num,hbx,by rw[HG.out,HS.out],hZx,by rw[HG.out,HS.out];exact hFx⟩
    case measure=>simp [intOf];omega
  ·rw[List.take_of_length_le (by omega)] at hF ⊢
   obtain⟨o,ho⟩:∃ o,revs.foldl (zea q p) none=o:=⟨_,rfl⟩;rw[ho] at hF ⊢;obtain⟨r,hr⟩:∃ r,zec o=r:=⟨_,rfl⟩;rw[hr] at hF;have HO:=hd_ ho;have HR2:=hd_ hr;clear ho hr;obtain⟨f0,f1,f2,f3,f4,f5,f6,f7,f8,f9,f10,f11⟩:=z7z hF;obtain⟨z0,z1,z2,z3,z4,z5,z6,z7,z8,z9,z10,z11⟩:=z7z hZ;obtain⟨y0,y1,y2,y3,y4,y5,y6,y7,y8,y9,y10,y11⟩:=zdz hZ;go_wp2_with fail;have hZ3:=ze0 hZ r;have hB3:=ze1 hbr (show w.heap.size≤w.heap.size+1 by omega) r
   generalize ((((((((((((wr.setCell ⟨w.heap.size+1,0,none⟩ (.string r.path)).setCell ⟨w.heap.size+1,1,none⟩ (.int .i64 r.num)).setCell ⟨w.heap.size+1,2,none⟩ (.int .i64 r.chg)).setCell ⟨w.heap.size+1,3,none⟩ (.int .i64 r.act)).setCell ⟨w.heap.size+1,4,none⟩ (.int .i64 r.ty.base)).setCell ⟨w.heap.size+1,5,none⟩ (.bool r.ty.k)).setCell ⟨w.heap.size+1,6,none⟩ (.bool r.ty.l)).setCell ⟨w.heap.size+1,7,none⟩ (.bool r.ty.x)).setCell ⟨w.heap.size+1,8,none⟩ (.int .u64 r.sum)).setCell ⟨w.heap.size+1,9,none⟩ (.int .i64 r.size)).setCell ⟨w.heap.size+1,10,none⟩ (.string r.frm)).setCell ⟨w.heap.size+1,11,none⟩ (.int .i64 r.fnum))=W3 at hZ3 hB3 ⊢;obtain⟨e0,e1,e2,e3,e4,e5,e6,e7,e8,e9,e10,e11⟩:=z7z hZ3;exact bodyPost_ret (v:=.tuple #[.agg #[.string r.path,.int .i64 r.num,.int .i64 r.chg,.int .i64 r.act,.int .i64 r.ty.base,.bool r.ty.k,.bool r.ty.l,.bool r.ty.x,.int .u64 r.sum,.int .i64 r.size,.string r.frm,.int .i64 r.fnum],.bool o.isSome]) (by simp [results,Tryz.results50,go_sem,e0,e1,e2,e3,e4,e5,e6,e7,e8,e9,e10,e11]) rfl ⟨by rw[HO.out,HR2.out],hB3⟩
def zgf (w:World)(U g m:Nat):Prop:=∃(l:List Int) (A:Option Addr) (c at':Nat),Blk w g 72 [.slice A l.length c,.int .i64 at']∧at'≤m∧Row w 1 (.slice A l.length c) l.length (l.map fun(n:Int)=>.int .i64 n)∧(∀ ad,A=some ad→ad.block≠g∧ad.block<U)∧g<U
theorem zgf.mono {w:World}{U g m m':Nat}(h:zgf w U g m)(hm:m≤m'):zgf w U g m':=by
 obtain⟨l,A,c,a,h1,h2,h3,h4⟩:=h;exact⟨l,A,c,a,h1,by omega,h3,h4⟩
theorem zgf.lt {w:World}{U g m:Nat}(h:zgf w U g m):g<w.heap.size:=by
 obtain⟨l,A,c,a,h1,-⟩:=h;exact h1.lt
theorem zgf.ltU {w:World}{U g m:Nat}(h:zgf w U g m):g<U:=by
 obtain⟨l,A,c,a,-,-,-,-,h1⟩:=h;exact h1
theorem zgf.below {w w':World}{U g m:Nat}(h:zgf w U g m)(hb:Below w.heap.size w w'):zgf w' U g m:=by
 obtain⟨l,A,c,a,h1,h2,h3,h4⟩:=h;exact⟨l,A,c,a,h1.below hb h1.lt,h2,h3.below hb,h4⟩
theorem zgf.keep {w w':World}{U g m:Nat}(h:zgf w U g m)(hs:w.heap.size≤w'.heap.size)(hk:∀ x,x<U→w'.heap[x]? = w.heap[x]?):zgf w' U g m:=by
 obtain⟨l,A,c,a,h1,h2,h3,h4,h5⟩:=h;refine⟨l,A,c,a,(hk g h5).trans h1,h2,?_,h4,h5⟩;obtain⟨A',c',e,hc,hm,hl,h00,hx⟩:=h3;refine⟨A',c',e,hc,hm,hl,h00,fun hn=>?_⟩;obtain⟨ad,e2,hb,hcell⟩:=hx hn;injection e with e3 e4 e5
 refine⟨ad,e2,by omega,fun j u hu=>?_⟩
 rw[← hcell j u hu];refine World.cell?_of_block (hk _ ?_);rw[z00];exact (h4 ad (e3.trans e2)).2
theorem row_at1 {w:World}{l:List Int}{A:Option Addr}{c k:Nat}(h:Row w 1 (.slice A l.length c) l.length (l.map fun(n:Int)=>.int .i64 n))(hk:k<l.length):∃ ad,A=some ad∧ad.block<w.heap.size∧w.cell? (ad.add k)=some (.int .i64 l[k]):=by
 obtain⟨A',c',e,hc,hm,hl,h0,hx⟩:=h;injection e with e1 e2 e3
 subst e1 e3;obtain⟨ad,rfl,hb,hcell⟩:=hx (by omega)
 refine⟨ad,rfl,hb,hcell k _ ?_⟩;rw[List.getElem?_map,List.getElem?_eq_getElem hk];rfl
theorem zgg (U g m:Nat)(n:Int)(w:World)(hT:zgf w U g m)(hm:m≤1000000)(hn:n≤1000000000):
  Calls Tryz.prog 24 #[.pointer (some ⟨g,0,none⟩),.int .i64 n] w fun e w'=>∃ k,e=.returned (.int .i64 k)∧Under n k∧zgf w' U g (m+1)∧z6t [g] w w':=by
 obtain⟨l,A,c,a,hB,ha,hR,hne,hgU⟩:=hT;have x0:w.cell? ⟨g,0,none⟩=some (.slice A l.length c):=hB.cell 0;have x1:w.cell? ⟨g,1,none⟩=some (.int .i64 a):=hB.cell 1;have f1:w.frozen? ⟨g,1,none⟩=false:=hB.frozen 1;have h1:IntKind.i64.wrap ((a:Int) * 7)=(a:Int) * 7:=by rw[IntKind.wrap_i64];omega
 obtain⟨r,hr⟩:∃ r,((a:Int) * 7).tmod 11=r:=⟨_,rfl⟩;have hrb:=zgd ((a:Int) * 7) 11 (by omega)
 rw[hr] at hrb;have h2:IntKind.i64.wrap r=r:=by rw[IntKind.wrap_i64];omega
 have HR:=hd_ hR;have HB:=hd_ hB;have HNE:=hd_ hne;have HF:=hd_ (fun v X=>zge v n X hn);have HEND:Hid (∀ X,Below w.heap.size w X→X.heap.size=w.heap.size→zgf (X.setCell ⟨g,1,none⟩ (.int .i64 ((a:Int)+1))) U g (m+1)∧z6t [g] w (X.setCell ⟨g,1,none⟩ (.int .i64 ((a:Int)+1)))):=hd_ (fun X hX hs=>by
  refine⟨⟨l,A,c,a+1,(hB.below hX hB.lt).set_ 1 _,by omega,?_,hne,hgU⟩,(z6t.below hX).trans (z6t.grown (z6u X g 1 _) (by simp))⟩
  refine Row.set_far (hR.below hX) ?_;intro e;cases A with
  | none=>cases e
  | some ad=>exact (hne ad rfl).1 (by simpa [Value.ownBlock] using e))
 have ham:a≤1000000:=by omega
 clear hB hR hne hn hrb hm ha;go_enter Tryz.func24,Tryz.ntmps24;go_upto_region 2 with fail;by_cases hlt:a<l.length
 ·have q:decide ((a:Int)<(l.length:Int))=true:=by simp;omega
  obtain⟨ad,rfl,hab,s0⟩:=row_at1 HR.out hlt;generalize l[a]=v at s0;have hz:(a:Int)<(l.length:Int):=by omega
  have hw3:IntKind.i64.wrap ((a:Int)+1)=(a:Int)+1:=by rw[IntKind.wrap_i64];omega
  clear hab hlt;go_quiet (fail)
  go_upto_region 3 with fail;go_quiet (fail)
  go_wp2_with fail;refine (HF.out v _).mono ?_;rintro e w' ⟨k,rfl,hk,rfl⟩;go_wp2_with fail;go_ret;exact⟨k,rfl,hk,HEND.out _ (below_drewN w _) rfl⟩
 ·have q:decide ((a:Int)<(l.length:Int))=false:=by simp;omega
  have q':decide (a<l.length)=false:=by simp;omega
  have hz:¬((a:Int)<(l.length:Int)):=by omega
  have hw3:IntKind.i64.wrap ((a:Int)+1)=(a:Int)+1:=by rw[IntKind.wrap_i64];omega
  clear hlt;go_quiet (fail)
  go_wp2_with fail;refine (HF.out r _).mono ?_;rintro e w' ⟨k,rfl,hk,rfl⟩;go_wp2_with fail;go_ret;exact⟨k,rfl,hk,HEND.out _ (below_drewN w _) rfl⟩
open Go.Sort (grow)
theorem z6t.grown_own {S:List Nat}{w W w':World}{row:Option Nat}(h:z6t S w W)(hg:W.grownBy w' row)(hr:∀ k,row=some k→w.heap.size≤k):z6t S w w':=
 ⟨hg.os.trans h.os,hg.tape.trans h.tape,hg.output.trans h.output,Nat.le_trans h.size hg.size,fun k hk hs=>(hg.block k (Nat.lt_of_lt_of_le hk h.size) (fun e=>by have:=hr k e.symm;omega)).trans (h.block k hk hs)⟩
theorem z6t.under {S:List Nat}{w W w':World}(h:z6t S w W)(hb:Below W.heap.size W w'):z6t S w w':=h.trans (z6t.below hb)
theorem zlh {S:List Nat}{w w':World}{B:Nat}{e:TypeId}{size n:Nat}{v:Value}{xs:List Value}(h:w.ownsRow B e size v n xs)(hK:z6t S w w')(hS:∀ x,v.ownBlock=some x→x∉S):w'.ownsRow B e size v n xs:=by
 refine⟨h.1,?_⟩;rcases h.2 with e1 | ⟨g,cap,cur,e1,h1,h2,h3⟩
 ·exact .inl e1
 ·exact .inr ⟨g,cap,cur,e1,h1,(hK.block g (Array.getElem?_eq_some_iff.1 h2).1 (hS g (by rw[e1];rfl))).trans h2,h3⟩
def zli (D:List Rev):Int:=(D.getLast?.map (·.chg)).getD 0
theorem zlj {D:List Rev}{k:Nat}(hk:D.length=k+1):zli D=(D[k]'(by omega)).chg:=by
 have e:D.getLast? = some (D[k]'(by omega)):=by
  rw[List.getLast?_eq_getElem?,show D.length - 1=k by omega,List.getElem?_eq_getElem]
 unfold zli;rw[e];rfl
theorem zlk (D:List Rev)(dv dr:Value)(w:World)(hR:z45 w dv D)(hl:D.length≤1000000):Calls Tryz.prog 26 #[.agg #[dv,dr]] w fun e w'=>e=.returned (.int .i64 (zli D))∧Below w.heap.size w w':=by
 obtain⟨A,c,rfl,-⟩:=id hR;have hB:=z0l w [.slice A D.length c,dr] 26;have hA:Below w.heap.size w (w.alloc (.cells #[.slice A D.length c,dr] 26)):=(Below.refl _ _).alloc (Nat.le_refl _) _;have HR:=hd_ (hR.below hA);have HA:=hd_ hA;clear hR hA;go_enter Tryz.func26,Tryz.ntmps26;go_upto_region 1 with fail;generalize w.alloc (.cells #[.slice A D.length c,dr] 26)=W1 at hB HR HA ⊢;have d0:W1.cell? ⟨w.heap.size,0,none⟩=some (.slice A D.length c):=hB.cell 0;clear hB;rcases Nat.eq_zero_or_pos D.length with h0 | h0
 ·have hD:D=[]:=List.eq_nil_of_length_eq_zero h0;subst hD;have HT:Hid (zli []=0):=hd_ rfl;go_wp2_with fail;go_ret;exact⟨z34 HT.out.symm,HA.out⟩
 ·obtain⟨k,hk⟩:∃ k,D.length=k+1:=⟨D.length - 1,by omega⟩
  obtain⟨ad,rfl,hab,hc⟩:=HR.out.at_ (k:=k) (by omega)
  have HT:=hd_ (zlj hk);generalize D[k]=r at hc HT;obtain⟨-,-,c2,-⟩:=hc;have q0:((D.length:Int) == 0)=false:=by rw[beq_eq_false_iff_ne];omega
  have q1:IntKind.i64.wrap ((D.length:Int) - 1)=(k:Int):=by rw[IntKind.wrap_i64];omega
  have q2:¬((k:Int)<0):=by omega
  have q3:(k:Int)<(D.length:Int):=by omega
  have q4:¬ D=[]:=by rintro rfl;simp at hk
  clear hk h0 hl;go_wp2_with fail;go_ret;exact⟨z34 HT.out.symm,HA.out⟩
theorem zll (w:World):Calls Tryz.prog 15 #[] w fun e w'=>e=.returned (.slice (some ⟨w.heap.size,0,none⟩) 6 6)∧w'=w.alloc (.cells (zff.map Value.string).toArray 9):=by
 go_enter Tryz.func15,Tryz.ntmps15;go_wp2_with fail;go_ret;exact⟨rfl,rfl⟩
theorem zlm (w:World):Calls Tryz.prog 33 #[] w fun e w'=>e=.returned (.slice (some ⟨w.heap.size,0,none⟩) 8 8)∧w'=w.alloc (.cells (zle.map Value.string).toArray 9):=by
 go_enter Tryz.func33,Tryz.ntmps33;go_wp2_with fail;go_ret;exact⟨rfl,rfl⟩
theorem zln:z0e Tryz.prog 29 9 1 16:=z0f Tryz.underlying29 (z:=.string ⟨#[]⟩) (by kernel_rfl) rfl (by decide)
theorem hI_lt {w:World}{B g:Nat}{e:TypeId}{size n:Nat}{v:Value}{xs:List Value}(h:w.ownsRow B e size v n xs)(hg:g<B):∀ x,v.ownBlock=some x→x≠g:=fun x hx=>by have:=(h.lt x hx).1;omega
structure FewSt (w wr:World)(U g m:Nat)(l l':List ByteArray)(v:Value):Prop where
 own:wr.ownsRow w.heap.size 9 1 v l'.length (l'.map .string)
 tape:zgf wr U g (m+1+l'.length)
 kept:z6t [g] w wr
 sub:∀ x∈l',x∈l
def zlo (w:World)(U g m:Nat)(l:List ByteArray)(e:Ending)(w':World):Prop:=∃(l':List ByteArray) (v:Value),e=.returned v∧Strs w' v l'∧l'.length≤2∧(∀ x∈l',x∈l)∧zgf w' U g (m+3)∧z6t [g] w w'∧∀ x,v.ownBlock=some x→w.heap.size≤x
theorem zlp (U g m:Nat)(l:List ByteArray)(A:Option Addr)(c:Nat)(w:World)(hT:zgf w U g m)(hU:U≤w.heap.size)(hm:m≤100000)(hL:∀ W,z6t [g] w W→Strs W (.slice A l.length c) l)(h0:0<l.length)(hl:l.length≤1000):
  Calls Tryz.prog 32 #[.pointer (some ⟨g,0,none⟩),.slice A l.length c] w (zlo w U g m l):=by
 have hg:=hT.lt;have HN:=hd_ (zgg U g m 3 w hT (by omega) (by omega))
 have HL:=hd_ hL;clear hT hL;go_enter Tryz.func32,Tryz.ntmps32;go_wp2_with (refine HN.out.mono ?_;rintro e w1 ⟨k,rfl,hk,hT1,hK1⟩)
 obtain⟨j,rfl⟩:∃ j:Nat,k=j:=⟨k.toNat,by have:=hk.1;omega⟩
 have hj2:j≤2:=by have:=hk.2.1 (by omega);omega
 have HS0:Hid (FewSt w w1 U g m l [] (.slice none 0 0)):=hd_ ⟨World.ownsRow_nil _ _ _ _,hT1,hK1,fun x h=>by cases h⟩
 clear hk hT1 hK1 HN;go_loopw [5,6] (fun v i wr=>∃(j:Nat) (l':List ByteArray) (A':Option Addr) (c':Nat),v=.slice A' l'.length c'∧i=.int .i64 j∧l'.length+j≤2∧Hid (FewSt w wr U g m l l' v)) (fun _ i _=>(intOf i).toNat)
 case atStart=>exact⟨j,[],none,0,rfl,rfl,by simpa using hj2,HS0⟩
 case round =>
  obtain⟨j,l',A',c',rfl,rfl,hlj,HI⟩:=hrel;by_cases h1:0<j
  ·have q1:decide ((0:Int)<(j:Int))=true:=by simp;omega
   have q2:decide ((0:Int)<(l.length:Int))=true:=by simp;omega
   have HX:=hd_ (zgg U g (m+1+l'.length) l.length wr HI.out.tape (by omega) (by omega))
   go_wp2_with (refine HX.out.mono ?_;rintro e w2 ⟨k,rfl,hk,hT2,hK2⟩)
   obtain⟨kk,rfl⟩:∃ kk:Nat,k=kk:=⟨k.toNat,by have:=hk.1;omega⟩
   have hkk:kk<l.length:=by
    rcases Nat.lt_or_ge 1 l.length with h | h
    ·have:=hk.2.1 (by omega);omega
    ·have:=hk.2.2 (by omega);omega
   obtain⟨ad,rfl,hab,s0⟩:=Strs.at_ (HL.out w2 (HI.out.kept.trans hK2)) hkk;have HQM:=hd_ (show l[kk]∈l from List.getElem_mem hkk);generalize l[kk]=q at s0 HQM;have hgl:=hI_lt HI.out.own hg;have hown2:w2.ownsRow w.heap.size 9 1 (.slice A' l'.length c') l'.length (l'.map .string):=zlh HI.out.own hK2 (fun x hx=>by rw[List.mem_singleton];exact hgl x hx)
   have HOWN:=hd_ (zcg hown2 (.cells #[.string q] 9));have HT2:=hd_ hT2;have HK2:=hd_ (HI.out.kept.trans hK2);have hb2:w.heap.size≤(w2.alloc (.cells #[.string q] 9)).heap.size:=by have:=HK2.out.size;simp;omega
   have HH1:=hd_ h1;clear hk hT2 hK2 hown2 hgl h1;go_wp2_with fail;go_simp
   go_wp2_with (at_builtin;refine z0j (base:=w.heap.size) rfl rfl zln HOWN.out rfl (z0i w2 [.string q] _ 1 1 rfl (by decide) _ (by simp)) rfl (by simp [Value.oneCell']) (by omega) (by unfold maxLen;omega) hb2 ?_;intro A6 c6 w6 hO6 hG6 hw6)
   have HN6:Hid (FewSt w w6 U g m l (l'++[q]) (.slice A6 (l'.length+1) c6)):=hd_ (by
    have hK6:z6t [g] w w6:=(HK2.out.under ((Below.refl _ _).alloc (Nat.le_refl _) _)).grown_own hG6 (fun k e=>(HOWN.out.lt k e).1);refine⟨?_,?_,hK6,fun x hx=>?_⟩
    ·rw[List.length_append,List.map_append];exact hO6
    ·have ht:=(HT2.out.below ((Below.refl _ _).alloc (Nat.le_refl _) (.cells #[.string q] 9)));have ht2:=ht.keep hG6.size (fun x hx=>hG6.block x (by simp;have:=HK2.out.size;omega) (fun e=>by have:=(HOWN.out.lt x e.symm).1;omega))
     rw[List.length_append];exact ht2
    ·rcases List.mem_append.1 hx with hx | hx
     ·exact HI.out.sub x hx
     ·rw[List.mem_singleton] at hx;rw[hx];exact HQM.out)
   have h1:=HH1.out;have q5:IntKind.i64.wrap ((j:Int) - 1)=((j - 1:Nat):Int):=by rw[IntKind.wrap_i64];omega
   clear hO6 hG6 hw6;go_wp2_with fail;go_roundw
   case rel=>exact⟨j - 1,l'++[q],A6,c6,by rw[List.length_append];rfl,by first | rfl | go_num,by rw[List.length_append];simp;omega,HN6⟩
   case measure=>simp [intOf];omega
  ·have h0j:j=0:=by omega
   subst h0j;have q1:decide ((0:Int)<((0:Nat):Int))=false:=by simp
   have HF:=hd_ (fun(X:World) (hX:X=wr)=>(⟨l',_,rfl,Row.of_own HI.out.own,by omega,HI.out.sub,HI.out.tape.mono (by omega),HI.out.kept,fun x hx=>(HI.out.own.lt x hx).1⟩:zlo w U g m l (.returned (.slice A' l'.length c')) wr))
   go_wp2_with fail;go_ret;exact HF.out _ rfl
def zlq:List Hav→ByteArray→Nat×Bool
 | [],_=>(0,false)
 | x :: l,p=>if x.path=p then (0,true) else if 0<z2u x.path p then (0,false) else ((zlq l p).1+1,(zlq l p).2)
def zlr (l:List Hav)(h:Hav):List Hav:=l.take (zlq l h.path).1++h :: l.drop ((zlq l h.path).1+if (zlq l h.path).2 then 1 else 0)
theorem zls:∀(l:List Hav) (p:ByteArray),(zlq l p).1≤l.length∧((zlq l p).2=true→(zlq l p).1<l.length)
 | [],_=>⟨Nat.le_refl _,fun h=>by cases h⟩
 | x :: l,p=>by
  obtain⟨h1,h2⟩:=zls l p;unfold zlq;split
  ·exact⟨Nat.zero_le _,fun _=>Nat.succ_pos _⟩
  ·split
   ·exact⟨Nat.zero_le _,fun h=>by cases h⟩
   ·exact⟨Nat.succ_le_succ h1,fun h=>Nat.succ_lt_succ (h2 h)⟩
theorem zlt {p:ByteArray}:∀ {l:List Hav} {k:Nat} (hk:k<l.length),(∀ j (hj:j<l.length),j<k→l[j].path≠p∧¬ 0<z2u l[j].path p) →
  (l[k].path=p→zlq l p=(k,true))∧(l[k].path≠p→0<z2u l[k].path p→zlq l p=(k,false))
 | [],k,hk,_=>absurd hk (by simp)
 | x :: l,0,_,_=>by
  refine⟨fun e=>?_,fun e h=>?_⟩
  ·unfold zlq;rw[if_pos (show x.path=p from e)]
  ·unfold zlq;rw[if_neg (show ¬ x.path=p from e),if_pos (show 0<z2u x.path p from h)]
 | x :: l,k+1,hk,h=>by
  obtain⟨h1,h2⟩:=h 0 (Nat.succ_pos _) (Nat.succ_pos _);have h1':¬ x.path=p:=h1;have h2':¬ 0<z2u x.path p:=h2;obtain⟨i1,i2⟩:=zlt (l:=l) (k:=k) (by simpa using hk) fun j hj hjk=>h (j+1) (by simpa using hj) (by omega)
  rw[List.getElem_cons_succ];refine⟨fun e=>?_,fun e h=>?_⟩
  ·unfold zlq;rw[if_neg h1',if_neg h2',i1 e]
  ·unfold zlq;rw[if_neg h1',if_neg h2',i2 e h]
theorem zlu {p:ByteArray}:∀ {l:List Hav},(∀ j (hj:j<l.length),l[j].path≠p∧¬ 0<z2u l[j].path p)→zlq l p=(l.length,false)
 | [],_=>rfl
 | x :: l,h=>by
  obtain⟨h1,h2⟩:=h 0 (Nat.succ_pos _);have h1':¬ x.path=p:=h1;have h2':¬ 0<z2u x.path p:=h2;have i:=zlu (l:=l) (p:=p) fun j hj=>h (j+1) (by simpa using hj)
  unfold zlq;rw[if_neg h1',if_neg h2',i];rfl
theorem zlv (x:Hav)(l:List Hav)(h:Hav):zlr (x :: l) h=if x.path=h.path then h :: l else if 0<z2u x.path h.path then h :: x :: l else x :: zlr l h:=by
 unfold zlr;rw[zlq];by_cases h1:x.path=h.path
 ·rw[if_pos h1,if_pos h1];rfl
 ·rw[if_neg h1,if_neg h1];by_cases h2:0<z2u x.path h.path
  ·rw[if_pos h2,if_pos h2];rfl
  ·rw[if_neg h2,if_neg h2];show x :: (l.take _++h :: (x :: l).drop _)=_
   rw[show (zlq l h.path).1+1+(if (zlq l h.path).2=true then 1 else 0)=(zlq l h.path).1+(if (zlq l h.path).2=true then 1 else 0)+1 by omega,List.drop_succ_cons]
theorem zlw:∀(l:List Hav) (h x:Hav),x∈zlr l h→x=h∨x∈l
 | [],h,x,hx=>by
  have hx':x∈[h]:=hx;exact .inl (List.mem_singleton.1 hx')
 | y :: l,h,x,hx=>by
  rw[zlv] at hx;split at hx
  ·rcases List.mem_cons.1 hx with e | e
   ·exact .inl e
   ·exact .inr (List.mem_cons_of_mem _ e)
  ·split at hx
   ·rcases List.mem_cons.1 hx with e | e
    ·exact .inl e
    ·exact .inr e
   ·rcases List.mem_cons.1 hx with e | e
    ·exact .inr (by rw[e];exact List.mem_cons_self ..)
    ·rcases zlw l h x e with e | e
     ·exact .inl e
     ·exact .inr (List.mem_cons_of_mem _ e)
theorem zlx:∀(l:List Hav) (h:Hav),z6b l→(∀ x∈l,z2s x.path=true)→z2s h.path=true→z6b (zlr l h)∧∀ p,z6d (zlr l h) p=if p=h.path then some h else z6d l p
 | [],h,_,_,_=>by
  refine⟨List.pairwise_singleton _ _,fun p=>?_⟩;show z5y Hav.path [h] p=_
  rw[z63];by_cases e:p=h.path
  ·rw[if_pos e.symm,if_pos e]
  ·rw[if_neg (fun e2=>e e2.symm),if_neg e]
 | x :: l,h,hs,hv,hh=>by
  have hvx:=hv x (List.mem_cons_self ..);rw[zlv];by_cases h1:x.path=h.path
  ·rw[if_pos h1];refine⟨List.pairwise_cons.2 ⟨fun b hb=>?_,hs.tail⟩,fun p=>?_⟩
   ·rw[← h1];exact hs.head b hb
   ·show z5y Hav.path (h :: l) p=if p=h.path then some h else z5y Hav.path (x :: l) p
    rw[z63,z63,h1];by_cases e:p=h.path
    ·rw[if_pos e.symm,if_pos e]
    ·rw[if_neg (fun e2=>e e2.symm),if_neg e,if_neg (fun e2=>e e2.symm)]
  ·rw[if_neg h1];by_cases h2:0<z2u x.path h.path
   ·rw[if_pos h2];have h3:z2u h.path x.path<0:=by rw[z5q];omega
    refine⟨List.pairwise_cons.2 ⟨fun b hb=>?_,hs⟩,fun p=>?_⟩
    ·rcases List.mem_cons.1 hb with e | e
     ·rw[e];exact h3
     ·exact z5f hh hvx (hv b (List.mem_cons_of_mem _ e)) h3 (hs.head b e)
    ·show z5y Hav.path (h :: x :: l) p=_
     rw[z63];by_cases e:p=h.path
     ·rw[if_pos e.symm,if_pos e]
     ·rw[if_neg (fun e2=>e e2.symm),if_neg e]
   ·rw[if_neg h2];have h3:z2u x.path h.path<0:=by
     rcases Int.lt_or_le (z2u x.path h.path) 0 with h | h
     ·exact h
     ·exact absurd (z6k hvx hh (by omega) h2) h1
    obtain⟨i1,i2⟩:=zlx l h hs.tail (fun y hy=>hv y (List.mem_cons_of_mem _ hy)) hh;refine⟨List.pairwise_cons.2 ⟨fun b hb=>?_,i1⟩,fun p=>?_⟩
    ·rcases zlw l h b hb with e | e
     ·rw[e];exact h3
     ·exact hs.head b e
    ·show z5y Hav.path (x :: zlr l h) p=if p=h.path then some h else z5y Hav.path (x :: l) p
     rw[z63,z63];have i2':=i2 p;by_cases e:x.path=p
     ·rw[if_pos e,if_pos e,if_neg (fun e2=>h1 (e.trans e2))]
     ·rw[if_neg e,if_neg e];exact i2'
def zly (D:List Rev)(f:ByteArray→Option ByteArray)(m:Int)(k:Nat)(out:List Hav):Prop:=
 z6b out∧(∀ x∈out,x.path∈zff)∧(∀ x∈out,zfj D f m x.path=some x)∧∀(j:Nat) (hj:j<D.length),j<k→∀ h,zfj D f m D[j].path=some h→h∈out
theorem refW_0 (D:List Rev)(f:ByteArray→Option ByteArray)(m:Int):zly D f m 0 []:=⟨List.Pairwise.nil,(fun x h=>by cases h),(fun x h=>by cases h),fun j _ h=>by omega⟩
theorem refW_no {D:List Rev}{f:ByteArray→Option ByteArray}{m:Int}{k:Nat}{out:List Hav}(h:zly D f m k out)(hk:k<D.length)(e:zfj D f m D[k].path=none):zly D f m (k+1) out:=
 ⟨h.1,h.2.1,h.2.2.1,fun j hj hjk x hx=>by
  by_cases ej:j=k
  ·subst ej;rw[e] at hx;cases hx
  ·exact h.2.2.2 j hj (by omega) x hx⟩
theorem zlz {p:ByteArray}(h:p∈zff):z2s p=true:=(zf2 (zfh p h)).1
theorem zm0 {D:List Rev}{f:ByteArray→Option ByteArray}{m:Int}{k:Nat}{out:List Hav}{x:Hav}(h:zly D f m k out)(hk:k<D.length)(h6:∀ r∈D,r.path∈zff)(e:zfj D f m D[k].path=some x):zly D f m (k+1) (zlr out x):=by
 obtain⟨h1,h2,h3,h4⟩:=h;have hxp:x.path=D[k].path:=(zfm e).1;have hx6:x.path∈zff:=by rw[hxp];exact h6 _ (List.getElem_mem hk)
 obtain⟨i1,i2⟩:=zlx out x h1 (fun y hy=>zlz (h2 y hy)) (zlz hx6);have hmem:∀ y,y∈zlr out x↔y=x∨(y∈out∧y.path≠x.path):=by
  intro y;constructor
  ·intro hy;have hg:=z65 i1 hy;have hg':z6d (zlr out x) y.path=some y:=hg;rw[i2] at hg';by_cases ey:y.path=x.path
   ·rw[if_pos ey] at hg';exact .inl (Option.some.inj hg').symm
   ·rw[if_neg ey] at hg';exact .inr ⟨(z61 hg').1,ey⟩
  ·rintro (rfl | ⟨hy,ey⟩)
   ·have:=i2 y.path;rw[if_pos rfl] at this;exact (z61 this).1
   ·have:=i2 y.path;rw[if_neg ey] at this;have hg:z6d out y.path=some y:=z65 h1 hy;rw[hg] at this;exact (z61 this).1
 refine⟨i1,fun y hy=>?_,fun y hy=>?_,fun j hj hjk y hy=>?_⟩
 ·rcases (hmem y).1 hy with rfl | ⟨a,_⟩
  ·exact hx6
  ·exact h2 y a
 ·rcases (hmem y).1 hy with rfl | ⟨a,_⟩
  ·rw[hxp];exact e
  ·exact h3 y a
 ·by_cases ep:D[j].path=D[k].path
  ·rw[ep,e] at hy;exact (hmem y).2 (.inl (Option.some.inj hy).symm)
  ·have hjk2:j≠k:=fun ee=>ep (by subst ee;rfl)
   have hy2:=h4 j hj (by omega) y hy
   refine (hmem y).2 (.inr ⟨hy2,?_⟩);rw[(zfm hy).1,hxp];exact ep
theorem zm1 {D:List Rev}{f:ByteArray→Option ByteArray}{m:Int}{out:List Hav}(h:zly D f m D.length out)(hn:∀ r∈D,1≤r.num)(hf:zfi f):out=zfk D f m:=by
 refine z66 h.1 (zfn hn hf).srt fun x=>⟨fun hx=>?_,fun hx=>?_⟩
 ·exact List.mem_filterMap.2 ⟨x.path,h.2.1 x hx,h.2.2.1 x hx⟩
 ·obtain⟨p,hp,e⟩:=List.mem_filterMap.1 hx;obtain⟨e1,-,r,hr,e3,-⟩:=zfm e;obtain⟨j,hj,rfl⟩:=List.getElem_of_mem hr;exact h.2.2.2 j hj hj x (by rw[e3];exact e)
theorem zm2 {D:List Rev}{f:ByteArray→Option ByteArray}{m:Int}{k:Nat}{out:List Hav}(h:zly D f m k out):out.length≤6:=by
 have e:out.map Hav.path=zff.filter (fun p=>decide (p∈out.map Hav.path)):=z66 (z68 (kb:=fun q:ByteArray=>q) h.1 fun _=>rfl) (z6a zfg _) fun a=>by
  rw[List.mem_filter,decide_eq_true_eq];refine⟨fun ha=>⟨?_,ha⟩,fun ha=>ha.2⟩;obtain⟨x,hx,rfl⟩:=List.mem_map.1 ha;exact h.2.1 x hx
 have h1:=congrArg List.length e;rw[List.length_map] at h1;rw[h1];exact Nat.le_trans (List.length_filter_le _ _) (by decide)
def znh (w:World)(p:Pat)(e:Ending)(w':World):Prop:=e=.returned (.tuple #[.int .i64 (za2 p),.bool p.rest])∧Below w.heap.size w w'
theorem zni (p:Pat)(A:Option Addr)(c:Nat)(w:World)(hp:za9 w (.slice A p.parts.length c) p)(h0:z7e p=0):
  Calls Tryz.prog 182 #[.agg #[.slice A p.parts.length c,.bool p.rest]] w (znh w p):=by
 have hB:=z0l w [.slice A p.parts.length c,.bool p.rest] 97;have hA:Below w.heap.size w (w.alloc (.cells #[.slice A p.parts.length c,.bool p.rest] 97)):=(Below.refl _ _).alloc (Nat.le_refl _) _;have HP:=hd_ hp;have HF:=hd_ (fun k (hk:k<p.parts.length)=>zcc h0 hk);have hl12:=zao h0;clear hp h0;go_enter Tryz.func182,Tryz.ntmps182;go_upto_region 1 with fail;generalize w.alloc (.cells #[.slice A p.parts.length c,.bool p.rest] 97)=W1 at hB hA ⊢;have d0:W1.cell? ⟨w.heap.size,0,none⟩=some (.slice A p.parts.length c):=hB.cell 0;have d1:W1.cell? ⟨w.heap.size,1,none⟩=some (.bool p.rest):=hB.cell 1;have HA:=hd_ hA;clear hA hB;go_wp2_with fail;go_loop [4,12] (fun s i=>∃ k:Nat,k≤p.parts.length∧i=.int .i64 k∧s=.int .i64 (za1 p.parts k)) (fun _ i=>p.parts.length - (intOf i).toNat)
 case atStart=>exact⟨0,Nat.zero_le _,rfl,rfl⟩
 case round =>
  obtain⟨k,hk,rfl,rfl⟩:=hrel;have hsl:=za5 (l:=p.parts) k;by_cases hlt:k<p.parts.length
  ·obtain⟨ad,rfl,hab,x0⟩:=Strs.at_ (HP.out.below HA.out).1 hlt;have HT:=hd_ (fun X=>z9n p.parts[k] X ((HP.out.small) _ (List.getElem_mem _)));unfold z9k at HT;have HN:=hd_ (za3 hlt);rw[z9b (HF.out k hlt)] at HT;generalize p.parts[k]=part at x0 HT HN;generalize z79 part=st at HT HN;generalize z80 part=sx at HT;generalize za1 p.parts k=m at HN hsl;clear hab;cases st with
   | false =>
    go_wp2_with fail;refine (HT.out _).mono ?_;rintro e w' ⟨rfl,rfl⟩;go_wp2_with fail;go_round
    case rel=>exact⟨k+1,by omega,by go_num,by rw[HN.out];rfl⟩
    case measure=>simp [intOf];omega
   | true =>
    go_wp2_with fail;refine (HT.out _).mono ?_;rintro e w' ⟨rfl,rfl⟩;go_wp2_with fail;go_round
    case rel=>exact⟨k+1,by omega,by go_num,by rw[HN.out];go_num⟩
    case measure=>simp [intOf];omega
  ·have hke:k=p.parts.length:=by omega
   subst hke;rw[za4];go_wp2_with fail;go_region_law (fail)
   go_wp2_with fail;go_ret2;exact⟨rfl,HA.out.drew⟩
theorem znj (ex:Bool)(l r:Pat)(A B:Option Addr)(a b:Nat)(w:World)(hL:za9 w (.slice A l.parts.length a) l)(hR:za9 w (.slice B r.parts.length b) r)(h1:z7e l=0)(h2:z7e r=0)(h3:za2 l=za2 r)(h4:l.rest=r.rest):
  Calls Tryz.prog 134 #[.agg #[.bool ex,.slice A l.parts.length a,.bool l.rest,.slice B r.parts.length b,.bool r.rest]] w fun e w'=>e=.returned (.int .i64 0)∧Below w.heap.size w w':=by
 have hB:=z0l w [.bool ex,.slice A l.parts.length a,.bool l.rest,.slice B r.parts.length b,.bool r.rest] 119;have hA:Below w.heap.size w (w.alloc (.cells #[.bool ex,.slice A l.parts.length a,.bool l.rest,.slice B r.parts.length b,.bool r.rest] 119)):=(Below.refl _ _).alloc (Nat.le_refl _) _;have HCL:=hd_ (fun X (hX:Below w.heap.size w X)=>zca l A a X (hL.below hX).1 hL.small);have HCR:=hd_ (fun X (hX:Below w.heap.size w X)=>zca r B b X (hR.below hX).1 hR.small);have HKL:=hd_ (fun X (hX:Below w.heap.size w X)=>zni l A a X (hL.below hX) h1);have HKR:=hd_ (fun X (hX:Below w.heap.size w X)=>zni r B b X (hR.below hX) h2);unfold znh at HKL HKR;rw[h1] at HCL;rw[h2] at HCR;rw[← h3,← h4] at HKR;rw[← h4] at HCR ⊢;rw[← h4] at hB hA;clear hL hR h1 h2 h3 h4;generalize za2 l=n at HKL HKR;go_enter Tryz.func134,Tryz.ntmps134;go_upto_region 1 with fail;generalize w.alloc (.cells #[.bool ex,.slice A l.parts.length a,.bool l.rest,.slice B r.parts.length b,.bool l.rest] 119)=W1 at hB hA ⊢;have d1:W1.cell? ⟨w.heap.size,1,none⟩=some (.slice A l.parts.length a):=hB.cell 1;have d2:W1.cell? ⟨w.heap.size,2,none⟩=some (.bool l.rest):=hB.cell 2;have HB:=hd_ hB;have HA:=hd_ hA;have HC:=hd_ (HCL.out W1 hA);clear hA hB HCL;go_wp2_with fail;refine HC.out.mono ?_;rintro e w2 ⟨rfl,hb⟩;have HB:=hd_ (HB.out.below hb HB.out.lt);have HA:=hd_ (z0r HA.out hb);clear hb d1 d2 HC;have d3:w2.cell? ⟨w.heap.size,3,none⟩=some (.slice B r.parts.length b):=HB.out.cell 3;have d4:w2.cell? ⟨w.heap.size,4,none⟩=some (.bool l.rest):=HB.out.cell 4;have HC:=hd_ (HCR.out w2 HA.out);clear HCR;go_wp2_with fail;refine HC.out.mono ?_;rintro e w3 ⟨rfl,hb⟩;have HB:=hd_ (HB.out.below hb HB.out.lt);have HA:=hd_ (z0r HA.out hb);clear hb d3 d4 HC;have d1:w3.cell? ⟨w.heap.size,1,none⟩=some (.slice A l.parts.length a):=HB.out.cell 1;have d2:w3.cell? ⟨w.heap.size,2,none⟩=some (.bool l.rest):=HB.out.cell 2;have HC:=hd_ (HKL.out w3 HA.out);clear HKL;go_wp2_with fail;refine HC.out.mono ?_;rintro e w4 ⟨rfl,hb⟩;have HB:=hd_ (HB.out.below hb HB.out.lt)
 have HA:=hd_ (z0r HA.out hb);clear hb d1 d2 HC;have d3:w4.cell? ⟨w.heap.size,3,none⟩=some (.slice B r.parts.length b):=HB.out.cell 3;have d4:w4.cell? ⟨w.heap.size,4,none⟩=some (.bool l.rest):=HB.out.cell 4;have HC:=hd_ (HKR.out w4 HA.out);clear HKR;go_wp2_with fail;refine HC.out.mono ?_;rintro e w5 ⟨rfl,hb⟩;have HA:=hd_ (z0r HA.out hb);clear hb d3 d4 HC;have q1:((n:Int) != (n:Int))=false:=by simp
 cases l.rest
 all_goals
  go_wp2_with fail;go_ret;exact⟨rfl,HA.out⟩
end Go.Proofs.YtegeboijhifmcaaGreatDoor
