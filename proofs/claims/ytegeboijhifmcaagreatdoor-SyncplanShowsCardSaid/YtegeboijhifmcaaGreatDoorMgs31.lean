/- A part of the proof. -/
import Derived.Test.YtegeboijhifmcaaGreatDoorMgs30
import Derived.Test.YtegeboijhifmcaaGreatDoorMgs28
import Derived.ProofKit
import Derived.OpenShut
import Derived.ShutString
import Derived.ChangeOld
import Derived.Deep.Slices
import Derived.Deep.Fields
import Derived.ChangeSlices
set_option linter.unusedVariables false
set_option linter.unusedSimpArgs false
set_option maxHeartbeats 8000000
set_option maxRecDepth 100000
namespace Go.Proofs.YtegeboijhifmcaaGreatDoor
open Go.Proofs.Tryz
open Go.RowKit
theorem at_fn (m:Int)(B:Nat)(r:Rev)(w:World)(hB:w.cell? ⟨B,0,none⟩=some (.int .i64 m)):Calls prog 51 #[.agg #[.string r.path,.int .i64 r.num,.int .i64 r.chg,.int .i64 r.act,.int .i64 r.ty.base,.bool r.ty.k,.bool r.ty.l,.bool r.ty.x,.int .u64 r.sum,.int .i64 r.size,.string r.frm,.int .i64 r.fnum],.pointer (some ⟨B,0,none⟩)] w fun e w'=>e=.returned (.bool ((fun v:Rev=>decide (v.chg≤m)) r))∧Below w.heap.size w w':=by
 have hBl:=z03 hB;go_enter func51,ntmps51;go_wp2_with fail;go_ret;exact⟨z0w (rfl),(Below.refl _ _).alloc (Nat.le_refl _) _⟩
theorem zed (revs:List Rev)(q:ByteArray)(m:Int)(B:Nat)(dv dr:Value)(w:World)(hR:z45 w dv revs)(hB:w.cell? ⟨B,0,none⟩=some (.int .i64 m))(hl:revs.length≤1000000):
  Calls prog 50 #[.agg #[dv,dr],.string q,.func (.func 51) #[] #[.pointer (some ⟨B,0,none⟩)]] w
   fun e w'=>e=.returned (.tuple #[.agg #[.string (zec (z30 revs q (fun v:Rev=>decide (v.chg≤m)))).path,.int .i64 (zec (z30 revs q (fun v:Rev=>decide (v.chg≤m)))).num,.int .i64 (zec (z30 revs q (fun v:Rev=>decide (v.chg≤m)))).chg,.int .i64 (zec (z30 revs q (fun v:Rev=>decide (v.chg≤m)))).act,.int .i64 (zec (z30 revs q (fun v:Rev=>decide (v.chg≤m)))).ty.base,.bool (zec (z30 revs q (fun v:Rev=>decide (v.chg≤m)))).ty.k,.bool (zec (z30 revs q (fun v:Rev=>decide (v.chg≤m)))).ty.l,.bool (zec (z30 revs q (fun v:Rev=>decide (v.chg≤m)))).ty.x,.int .u64 (zec (z30 revs q (fun v:Rev=>decide (v.chg≤m)))).sum,.int .i64 (zec (z30 revs q (fun v:Rev=>decide (v.chg≤m)))).size,.string (zec (z30 revs q (fun v:Rev=>decide (v.chg≤m)))).frm,.int .i64 (zec (z30 revs q (fun v:Rev=>decide (v.chg≤m)))).fnum],.bool (z30 revs q (fun v:Rev=>decide (v.chg≤m))).isSome])∧Below w.heap.size w w':=by
 obtain⟨Ar,cr,rfl,hcr,hmr,-⟩:=id hR;have HR:=hd_ hR;clear hR;unfold maxLen at hmr;rw[zeb];have HF:=hd_ (fun(r:Rev) (W:World) (hb:Below w.heap.size w W)=>at_fn m B r W (z04 hB hb (z03 hB)));have hb0:Below w.heap.size w (((w.alloc (.cells #[.slice Ar revs.length cr,dr] 26)).alloc (.cells #[.string ⟨#[]⟩,.int .i64 0,.int .i64 0,.int .i64 0,.int .i64 0,.bool false,.bool false,.bool false,.int .u64 0,.int .i64 0,.string ⟨#[]⟩,.int .i64 0] 66)).alloc (.cells #[.string ⟨#[]⟩,.int .i64 0,.int .i64 0,.int .i64 0,.int .i64 0,.bool false,.bool false,.bool false,.int .u64 0,.int .i64 0,.string ⟨#[]⟩,.int .i64 0] 66)):=(((Below.refl _ _).alloc (Nat.le_refl _) _).alloc (by simp) _).alloc (by simp;omega) _
 generalize (fun v:Rev=>decide (v.chg≤m))=p at HF ⊢;go_enter func50,ntmps50;go_wp2_with fail;go_loopw [9,15] (fun o i wr=>∃(k:Nat),k≤revs.length∧i=.int .i64 k∧Below w.heap.size w wr∧o=.bool ((revs.take k).foldl (zea q p) none).isSome∧Blk wr (w.heap.size+1) 66 [.string ⟨#[]⟩,.int .i64 0,.int .i64 0,.int .i64 0,.int .i64 0,.bool false,.bool false,.bool false,.int .u64 0,.int .i64 0,.string ⟨#[]⟩,.int .i64 0]∧Blk wr (w.heap.size+1+1) 66 [.string (zec ((revs.take k).foldl (zea q p) none)).path,.int .i64 (zec ((revs.take k).foldl (zea q p) none)).num,.int .i64 (zec ((revs.take k).foldl (zea q p) none)).chg,.int .i64 (zec ((revs.take k).foldl (zea q p) none)).act,.int .i64 (zec ((revs.take k).foldl (zea q p) none)).ty.base,.bool (zec ((revs.take k).foldl (zea q p) none)).ty.k,.bool (zec ((revs.take k).foldl (zea q p) none)).ty.l,.bool (zec ((revs.take k).foldl (zea q p) none)).ty.x,.int .u64 (zec ((revs.take k).foldl (zea q p) none)).sum,.int .i64 (zec ((revs.take k).foldl (zea q p) none)).size,.string (zec ((revs.take k).foldl (zea q p) none)).frm,.int .i64 (zec ((revs.take k).foldl (zea q p) none)).fnum]) (fun _ i _=>revs.length - (intOf i).toNat)
 case atStart =>
  refine⟨0,Nat.zero_le _,rfl,hb0,rfl,?_,?_⟩
  ·have:=z0l (w.alloc (.cells #[.slice Ar revs.length cr,dr] 26)) [.string ⟨#[]⟩,.int .i64 0,.int .i64 0,.int .i64 0,.int .i64 0,.bool false,.bool false,.bool false,.int .u64 0,.int .i64 0,.string ⟨#[]⟩,.int .i64 0] 66;have:=this.alloc (.cells #[.string ⟨#[]⟩,.int .i64 0,.int .i64 0,.int .i64 0,.int .i64 0,.bool false,.bool false,.bool false,.int .u64 0,.int .i64 0,.string ⟨#[]⟩,.int .i64 0] 66);simpa using this
  ·have:=z0l ((w.alloc (.cells #[.slice Ar revs.length cr,dr] 26)).alloc (.cells #[.string ⟨#[]⟩,.int .i64 0,.int .i64 0,.int .i64 0,.int .i64 0,.bool false,.bool false,.bool false,.int .u64 0,.int .i64 0,.string ⟨#[]⟩,.int .i64 0] 66)) [.string ⟨#[]⟩,.int .i64 0,.int .i64 0,.int .i64 0,.int .i64 0,.bool false,.bool false,.bool false,.int .u64 0,.int .i64 0,.string ⟨#[]⟩,.int .i64 0] 66;simp only[World.size_alloc] at this
   exact this
 case round =>
  obtain⟨k,hk,rfl,hbr,rfl,hZ,hF⟩:=hrel;by_cases hlt:k<revs.length
  ·obtain⟨ad,rfl,hab,hld⟩:=z45.at_ (HR.out.below hbr) hlt;have HT:=hd_ (show revs.take (k+1)=revs.take k++[revs[k]] from List.take_succ_eq_append_getElem hlt);have HG:Hid ((revs.take (k+1)).foldl (zea q p) none=zea q p ((revs.take k).foldl (zea q p) none) revs[k]):=hd_ (by rw[HT.out,List.foldl_append];rfl)
   generalize revs[k]=r at hld HT HG;generalize (revs.take k).foldl (zea q p) none=o at hF HG;obtain⟨x0,x1,x2,x3,x4,x5,x6,x7,x8,x9,x10,x11⟩:=hld;have hbx:=hbr.alloc hbr.size (.cells #[.string r.path,.int .i64 r.num,.int .i64 r.chg,.int .i64 r.act,.int .i64 r.ty.base,.bool r.ty.k,.bool r.ty.l,.bool r.ty.x,.int .u64 r.sum,.int .i64 r.size,.string r.frm,.int .i64 r.fnum] 66);have hZx:=hZ.alloc (.cells #[.string r.path,.int .i64 r.num,.int .i64 r.chg,.int .i64 r.act,.int .i64 r.ty.base,.bool r.ty.k,.bool r.ty.l,.bool r.ty.x,.int .u64 r.sum,.int .i64 r.size,.string r.frm,.int .i64 r.fnum] 66);have hFx:=hF.alloc (.cells #[.string r.path,.int .i64 r.num,.int .i64 r.chg,.int .i64 r.act,.int .i64 r.ty.base,.bool r.ty.k,.bool r.ty.l,.bool r.ty.x,.int .u64 r.sum,.int .i64 r.size,.string r.frm,.int .i64 r.fnum] 66);have hX:=z0l wr [.string r.path,.int .i64 r.num,.int .i64 r.chg,.int .i64 r.act,.int .i64 r.ty.base,.bool r.ty.k,.bool r.ty.l,.bool r.ty.x,.int .u64 r.sum,.int .i64 r.size,.string r.frm,.int .i64 r.fnum] 66;by_cases hp:r.path=q
   ·have HC:=hd_ (HF.out r (wr.alloc (.cells #[.string r.path,.int .i64 r.num,.int .i64 r.chg,.int .i64 r.act,.int .i64 r.ty.base,.bool r.ty.k,.bool r.ty.l,.bool r.ty.x,.int .u64 r.sum,.int .i64 r.size,.string r.frm,.int .i64 r.fnum] 66)) hbx);cases hpr:p r
    ·rw[hpr] at HC;have HS:Hid (zea q p o r=o):=hd_ (by unfold zea;rw[hpr];simp)
     clear hpr;subst hp;go_wp2_with fail;refine HC.out.mono ?_;rintro e w2 ⟨rfl,hb2⟩;go_wp2_with fail;go_roundw
     case rel=>exact⟨k+1,by omega,by go_num,z0r hbx hb2,by rw[HG.out,HS.out],hZx.below hb2 hZx.lt,by rw[HG.out,HS.out];exact hFx.below hb2 hFx.lt⟩
     case measure=>simp [intOf];omega
    ·rw[hpr] at HC;have hnew:∀ b:Bool,o.isSome=false∨(zec o).num<r.num→zea q p o r=some r:=by
      intro b h;unfold zea;rw[if_pos ⟨hp,hpr⟩];cases o with
      | none=>rfl
      | some x =>
       rcases h with h | h
       ·cases h
       ·exact if_pos h
     have hold:o.isSome=true→¬(zec o).num<r.num→zea q p o r=o:=by
      intro h1 h2;unfold zea;rw[if_pos ⟨hp,hpr⟩];cases o with
      | none=>cases h1
      | some x=>exact if_neg h2
     clear hpr;subst hp;by_cases hn:o.isSome=false∨(zec o).num<r.num
     ·have HS:=hd_ (hnew true hn);clear hnew hold;cases hos:o.isSome
      ·clear hn;go_wp2_with fail;refine HC.out.mono ?_;rintro e w2 ⟨rfl,hb2⟩;have hX2:=hX.below hb2 hX.lt;have hF2:=hFx.below hb2 hFx.lt;have hZ2:=hZx.below hb2 hZx.lt;have hbw2:=z0r hbx hb2;obtain⟨c0,c1,c2,c3,c4,c5,c6,c7,c8,c9,c10,c11⟩:=z7z hX2;obtain⟨f0,f1,f2,f3,f4,f5,f6,f7,f8,f9,f10,f11⟩:=z7z hF2;obtain⟨y0,y1,y2,y3,y4,y5,y6,y7,y8,y9,y10,y11⟩:=zdz hF2;clear hb2;have hF3:=ze0 hF2 r;have hB3:=ze1 hbw2 (show w.heap.size≤w.heap.size+1+1 by omega) r
       have hZ3:=far12 hZ2 (show w.heap.size+1+1≠w.heap.size+1 by omega) r
       go_wp2_with fail;go_roundw
       case rel=>exact⟨k+1,by omega,by go_num,hB3,by rw[HG.out,HS.out];rfl,hZ3,by rw[HG.out,HS.out];exact hF3⟩
       case measure=>simp [intOf];omega
      ·have hn2:(zec o).num<r.num:=by rcases hn with h | h;(rw[hos] at h;cases h);exact h
       clear hn;go_wp2_with fail;refine HC.out.mono ?_;rintro e w2 ⟨rfl,hb2⟩;have hX2:=hX.below hb2 hX.lt;have hF2:=hFx.below hb2 hFx.lt;have hZ2:=hZx.below hb2 hZx.lt;have hbw2:=z0r hbx hb2;obtain⟨c0,c1,c2,c3,c4,c5,c6,c7,c8,c9,c10,c11⟩:=z7z hX2;obtain⟨f0,f1,f2,f3,f4,f5,f6,f7,f8,f9,f10,f11⟩:=z7z hF2;obtain⟨y0,y1,y2,y3,y4,y5,y6,y7,y8,y9,y10,y11⟩:=zdz hF2;clear hb2;have hF3:=ze0 hF2 r;have hB3:=ze1 hbw2 (show w.heap.size≤w.heap.size+1+1 by omega) r
       have hZ3:=far12 hZ2 (show w.heap.size+1+1≠w.heap.size+1 by omega) r
       go_wp2_with fail;go_roundw
       case rel=>exact⟨k+1,by omega,by go_num,hB3,by rw[HG.out,HS.out];rfl,hZ3,by rw[HG.out,HS.out];exact hF3⟩
       case measure=>simp [intOf];omega
     ·rw[not_or] at hn;have hos:o.isSome=true:=by
       cases h:o.isSome
       ·exact absurd h hn.1
       ·rfl
      have hn2:¬(zec o).num<r.num:=hn.2;have HS:=hd_ (hold hos hn2);clear hnew hold hn;go_wp2_with fail;refine HC.out.mono ?_;rintro e w2 ⟨rfl,hb2⟩;have hX2:=hX.below hb2 hX.lt;have hF2:=hFx.below hb2 hFx.lt;have hZ2:=hZx.below hb2 hZx.lt;have hbw2:=z0r hbx hb2;obtain⟨c0,c1,c2,c3,c4,c5,c6,c7,c8,c9,c10,c11⟩:=z7z hX2;obtain⟨f0,f1,f2,f3,f4,f5,f6,f7,f8,f9,f10,f11⟩:=z7z hF2;clear hb2;go_wp2_with fail;go_roundw
      case rel=>exact⟨k+1,by omega,by go_num,hbw2,by rw[HG.out,HS.out,hos],hZ2,by rw[HG.out,HS.out];exact hF2⟩
      case measure=>simp [intOf];omega
   ·have HS:Hid (zea q p o r=o):=hd_ (by unfold zea;rw[if_neg (fun h=>hp h.1)])
    have sq:=ze7 r.path q;rw[show decide (r.path=q)=false by simpa using hp] at sq
    clear hp;go_wp2_with fail;go_roundw
    case rel=>exact⟨k+1,by omega,by go_num,hbx,by rw[HG.out,HS.out],hZx,by rw[HG.out,HS.out];exact hFx⟩
    case measure=>simp [intOf];omega
  ·rw[List.take_of_length_le (by omega)] at hF ⊢
   obtain⟨o,ho⟩:∃ o,revs.foldl (zea q p) none=o:=⟨_,rfl⟩;rw[ho] at hF ⊢;obtain⟨r,hr⟩:∃ r,zec o=r:=⟨_,rfl⟩;rw[hr] at hF;have HO:=hd_ ho;have HR2:=hd_ hr;clear ho hr;obtain⟨f0,f1,f2,f3,f4,f5,f6,f7,f8,f9,f10,f11⟩:=z7z hF;obtain⟨z0,z1,z2,z3,z4,z5,z6,z7,z8,z9,z10,z11⟩:=z7z hZ;obtain⟨y0,y1,y2,y3,y4,y5,y6,y7,y8,y9,y10,y11⟩:=zdz hZ;go_wp2_with fail;have hZ3:=ze0 hZ r;have hB3:=ze1 hbr (show w.heap.size≤w.heap.size+1 by omega) r
   generalize ((((((((((((wr.setCell ⟨w.heap.size+1,0,none⟩ (.string r.path)).setCell ⟨w.heap.size+1,1,none⟩ (.int .i64 r.num)).setCell ⟨w.heap.size+1,2,none⟩ (.int .i64 r.chg)).setCell ⟨w.heap.size+1,3,none⟩ (.int .i64 r.act)).setCell ⟨w.heap.size+1,4,none⟩ (.int .i64 r.ty.base)).setCell ⟨w.heap.size+1,5,none⟩ (.bool r.ty.k)).setCell ⟨w.heap.size+1,6,none⟩ (.bool r.ty.l)).setCell ⟨w.heap.size+1,7,none⟩ (.bool r.ty.x)).setCell ⟨w.heap.size+1,8,none⟩ (.int .u64 r.sum)).setCell ⟨w.heap.size+1,9,none⟩ (.int .i64 r.size)).setCell ⟨w.heap.size+1,10,none⟩ (.string r.frm)).setCell ⟨w.heap.size+1,11,none⟩ (.int .i64 r.fnum))=W3 at hZ3 hB3 ⊢;obtain⟨e0,e1,e2,e3,e4,e5,e6,e7,e8,e9,e10,e11⟩:=z7z hZ3;exact bodyPost_ret (v:=.tuple #[.agg #[.string r.path,.int .i64 r.num,.int .i64 r.chg,.int .i64 r.act,.int .i64 r.ty.base,.bool r.ty.k,.bool r.ty.l,.bool r.ty.x,.int .u64 r.sum,.int .i64 r.size,.string r.frm,.int .i64 r.fnum],.bool o.isSome]) (by simp [results,results50,go_sem,e0,e1,e2,e3,e4,e5,e6,e7,e8,e9,e10,e11]) rfl ⟨by rw[HO.out,HR2.out],hB3⟩
theorem at_any (revs:List Rev)(q:ByteArray)(m:Int)(dv dr:Value)(w:World)(hR:z45 w dv revs)(hl:revs.length≤1000000):
  Calls prog 27 #[.agg #[dv,dr],.string q,.int .i64 m] w
   fun e w'=>e=.returned (.tuple #[.agg #[.string (zec (z30 revs q (fun v:Rev=>decide (v.chg≤m)))).path,.int .i64 (zec (z30 revs q (fun v:Rev=>decide (v.chg≤m)))).num,.int .i64 (zec (z30 revs q (fun v:Rev=>decide (v.chg≤m)))).chg,.int .i64 (zec (z30 revs q (fun v:Rev=>decide (v.chg≤m)))).act,.int .i64 (zec (z30 revs q (fun v:Rev=>decide (v.chg≤m)))).ty.base,.bool (zec (z30 revs q (fun v:Rev=>decide (v.chg≤m)))).ty.k,.bool (zec (z30 revs q (fun v:Rev=>decide (v.chg≤m)))).ty.l,.bool (zec (z30 revs q (fun v:Rev=>decide (v.chg≤m)))).ty.x,.int .u64 (zec (z30 revs q (fun v:Rev=>decide (v.chg≤m)))).sum,.int .i64 (zec (z30 revs q (fun v:Rev=>decide (v.chg≤m)))).size,.string (zec (z30 revs q (fun v:Rev=>decide (v.chg≤m)))).frm,.int .i64 (zec (z30 revs q (fun v:Rev=>decide (v.chg≤m)))).fnum],.bool (z30 revs q (fun v:Rev=>decide (v.chg≤m))).isSome])∧Below w.heap.size w w':=by
 have HR:=hd_ hR;obtain⟨Ar,cr,rfl,-⟩:=hR;obtain⟨dv,hdv⟩:∃ v,Value.slice Ar revs.length cr=v:=⟨_,rfl⟩;have hb0:Below w.heap.size w (((w.alloc (.cells #[(.slice Ar revs.length cr),dr] 26)).alloc (.cells #[.int .i64 m] 3)).alloc (.cells #[.string ⟨#[]⟩,.int .i64 0,.int .i64 0,.int .i64 0,.int .i64 0,.bool false,.bool false,.bool false,.int .u64 0,.int .i64 0,.string ⟨#[]⟩,.int .i64 0] 66)):=((((Below.refl _ _).alloc (Nat.le_refl _) _).alloc (by simp) _).alloc (by simp;omega) _)
 have hZ:Blk (((w.alloc (.cells #[(.slice Ar revs.length cr),dr] 26)).alloc (.cells #[.int .i64 m] 3)).alloc (.cells #[.string ⟨#[]⟩,.int .i64 0,.int .i64 0,.int .i64 0,.int .i64 0,.bool false,.bool false,.bool false,.int .u64 0,.int .i64 0,.string ⟨#[]⟩,.int .i64 0] 66)) (w.heap.size+1+1) 66 [.string ⟨#[]⟩,.int .i64 0,.int .i64 0,.int .i64 0,.int .i64 0,.bool false,.bool false,.bool false,.int .u64 0,.int .i64 0,.string ⟨#[]⟩,.int .i64 0]:=by
  have h1:=z0l ((w.alloc (.cells #[(.slice Ar revs.length cr),dr] 26)).alloc (.cells #[.int .i64 m] 3)) [.string ⟨#[]⟩,.int .i64 0,.int .i64 0,.int .i64 0,.int .i64 0,.bool false,.bool false,.bool false,.int .u64 0,.int .i64 0,.string ⟨#[]⟩,.int .i64 0] 66;simp only[World.size_alloc] at h1
  exact h1
 have hcell:(((w.alloc (.cells #[(.slice Ar revs.length cr),dr] 26)).alloc (.cells #[.int .i64 m] 3)).alloc (.cells #[.string ⟨#[]⟩,.int .i64 0,.int .i64 0,.int .i64 0,.int .i64 0,.bool false,.bool false,.bool false,.int .u64 0,.int .i64 0,.string ⟨#[]⟩,.int .i64 0] 66)).cell? ⟨w.heap.size+1,0,none⟩=some (.int .i64 m):=by
  have h1:=(z0l (w.alloc (.cells #[(.slice Ar revs.length cr),dr] 26)) [.int .i64 m] 3).alloc (.cells #[.string ⟨#[]⟩,.int .i64 0,.int .i64 0,.int .i64 0,.int .i64 0,.bool false,.bool false,.bool false,.int .u64 0,.int .i64 0,.string ⟨#[]⟩,.int .i64 0] 66);simp only[World.size_alloc] at h1
  exact h1.cell 0
 have HC:=hd_ (zed revs q m (w.heap.size+1) (.slice Ar revs.length cr) dr _ (HR.out.below hb0) hcell hl);clear hdv dv hcell;generalize z30 revs q (fun v:Rev=>decide (v.chg≤m))=o at HC ⊢;generalize zec o=r at HC ⊢;go_enter func27,ntmps27;go_wp2_with fail;refine HC.out.mono ?_;rintro e w1 ⟨rfl,hb1⟩;have hZ1:=hZ.below hb1 hZ.lt;have hbw1:=z0r hb0 hb1;obtain⟨z0,z1,z2,z3,z4,z5,z6,z7,z8,z9,z10,z11⟩:=z7z hZ1;obtain⟨y0,y1,y2,y3,y4,y5,y6,y7,y8,y9,y10,y11⟩:=zdz hZ1;clear hb1;go_wp2_with fail;have hZ3:=ze0 hZ1 r;have hB3:=ze1 hbw1 (show w.heap.size≤w.heap.size+1+1 by omega) r
 generalize ((((((((((((w1.setCell ⟨w.heap.size+1+1,0,none⟩ (.string r.path)).setCell ⟨w.heap.size+1+1,1,none⟩ (.int .i64 r.num)).setCell ⟨w.heap.size+1+1,2,none⟩ (.int .i64 r.chg)).setCell ⟨w.heap.size+1+1,3,none⟩ (.int .i64 r.act)).setCell ⟨w.heap.size+1+1,4,none⟩ (.int .i64 r.ty.base)).setCell ⟨w.heap.size+1+1,5,none⟩ (.bool r.ty.k)).setCell ⟨w.heap.size+1+1,6,none⟩ (.bool r.ty.l)).setCell ⟨w.heap.size+1+1,7,none⟩ (.bool r.ty.x)).setCell ⟨w.heap.size+1+1,8,none⟩ (.int .u64 r.sum)).setCell ⟨w.heap.size+1+1,9,none⟩ (.int .i64 r.size)).setCell ⟨w.heap.size+1+1,10,none⟩ (.string r.frm)).setCell ⟨w.heap.size+1+1,11,none⟩ (.int .i64 r.fnum))=W3 at hZ3 hB3 ⊢;obtain⟨e0,e1,e2,e3,e4,e5,e6,e7,e8,e9,e10,e11⟩:=z7z hZ3;exact bodyPost_ret (v:=.tuple #[.agg #[.string r.path,.int .i64 r.num,.int .i64 r.chg,.int .i64 r.act,.int .i64 r.ty.base,.bool r.ty.k,.bool r.ty.l,.bool r.ty.x,.int .u64 r.sum,.int .i64 r.size,.string r.frm,.int .i64 r.fnum],.bool o.isSome]) (by simp [results,results27,go_sem,e0,e1,e2,e3,e4,e5,e6,e7,e8,e9,e10,e11]) rfl ⟨rfl,hB3⟩
structure zfs (es:List zd8):Prop where
 map:zdj es
 fits:∀ p∈zff,zdu es p
 small:∀ p∈zff,∀ s,zdt es p=some s→s.size≤200
theorem zft:∀ x∈zff,z2s x=true∧x.size≤1000000:=by decide +kernel
theorem zfu {D:List Rev}{f:ByteArray→Option ByteArray}{m:Int}{p:ByteArray}(h:z30 D p (fun v:Rev=>decide (v.chg≤m))=none):zfj D f m p=none:=by unfold zfj;rw[h]
theorem zfv {D:List Rev}{f:ByteArray→Option ByteArray}{m:Int}{p:ByteArray}{r:Rev}(h:z30 D p (fun v:Rev=>decide (v.chg≤m))=some r)(hl:z2v r.act=false):zfj D f m p=none:=by unfold zfj;rw[h];simp only;rw[if_neg (by rw[hl];decide)]
theorem zfw {D:List Rev}{f:ByteArray→Option ByteArray}{m:Int}{p:ByteArray}{r:Rev}(h:z30 D p (fun v:Rev=>decide (v.chg≤m))=some r)(hf:f p=none):zfj D f m p=none:=by unfold zfj;rw[h];simp only;rw[hf];split <;> rfl
theorem zfx {D:List Rev}{f:ByteArray→Option ByteArray}{m:Int}{p s:ByteArray}{r:Rev}(h:z30 D p (fun v:Rev=>decide (v.chg≤m))=some r)(hl:z2v r.act=true)(hf:f p=some s):zfj D f m p=some ⟨p,r.num,s⟩:=by unfold zfj;rw[h];simp only;rw[if_pos hl,hf];rfl
theorem zqr {α β:Type}(f:α→Option β)(l:List α)(k:Nat)(hk:k<l.length):(l.take (k+1)).filterMap f=(l.take k).filterMap f++(f l[k]).toList:=by
 rw[List.take_succ_eq_append_getElem hk,List.filterMap_append];cases h:f l[k] with
 | none=>simp [h]
 | some b=>simp [h]
theorem zfy {D:List Rev}{f:ByteArray→Option ByteArray}{m:Int}{l:List ByteArray}(hs:z5x (fun q:ByteArray=>q) l)(hm:∀ q,q∈l↔∃ r∈D,r.path=q)(h6:∀ r∈D,r.path∈zff):l.filterMap (zfj D f m)=zfk D f m:=by
 have hno:∀ p,p∉l→zfj D f m p=none:=fun p hp=>zfu (by
  cases hg:z30 D p (fun v:Rev=>decide (v.chg≤m)) with
  | none=>rfl
  | some r =>
   obtain⟨h1,h2,-⟩:=zfl hg;exact absurd ((hm p).2 ⟨r,h1,h2⟩) hp)
 have he:l=zff.filter (fun p=>decide (p∈l)):=z66 hs (z6a zfg _) fun a=>by
  rw[List.mem_filter,decide_eq_true_eq];refine⟨fun h=>⟨?_,h⟩,fun h=>h.2⟩;obtain⟨r,hr,rfl⟩:=(hm a).1 h;exact h6 r hr
 unfold zfk;suffices h:∀(L:List ByteArray),(L.filter (fun p=>decide (p∈l))).filterMap (zfj D f m)=L.filterMap (zfj D f m) by
  rw[← h zff,← he]
 intro L;induction L with
 | nil=>rfl
 | cons a L ih =>
  by_cases ha:a∈l
  ·rw[List.filter_cons_of_pos (by simpa using ha),List.filterMap_cons,List.filterMap_cons,ih]
  ·rw[List.filter_cons_of_neg (by simpa using ha),List.filterMap_cons,hno a ha,ih]
def zfz (w:World)(l:List Hav)(e:Ending)(w':World):Prop:=∃ v,e=.returned (.tuple #[v,.int .i64 0])∧z4b w' v l∧Below w.heap.size w w'
theorem zg0 (D:List Rev)(es:List zd8)(m:Int)(dv dr mv:Value)(w:World)(he:Env w)(hR:z45 w dv D)(hE:zdi w mv es)(hl:D.length≤1000000)(h6:∀ r∈D,r.path∈zff)(hS:zfs es):
  Calls prog 13 #[.agg #[dv,dr],mv,.int .i64 m] w (zfz w (zfk D (zdt es) m)):=by
 obtain⟨Ar,cr,rfl,-⟩:=id hR;have hBox:=z0l w [.slice Ar D.length cr,dr] 26;have hA:Below w.heap.size w (w.alloc (.cells #[.slice Ar D.length cr,dr] 26)):=(Below.refl _ _).alloc (Nat.le_refl _) _;have HCK:=hd_ (fun X (hX:Below w.heap.size w X)=>zdn es mv X (hE.below hX) hS.map);have HPA:=hd_ (fun X (hX:Below w.heap.size w X)=>zbb D zff (.slice Ar D.length cr) dr X (hR.below hX) hl h6 (by decide) zft)
 have HAT:=hd_ (fun X (hX:Below w.heap.size w X) p=>at_any D p m (.slice Ar D.length cr) dr X (hR.below hX) hl);have HFW:=hd_ (fun X (hX:Below w.heap.size w X) p (hp:p∈zff)=>zdx es mv p X (he.below hX) (hE.below hX) hS.map (hS.fits p hp) (zft p hp).2);have HSM:=hd_ hS.small;have H6:=hd_ h6;have HA:=hd_ hA;have HBX:=hd_ hBox;have HW:Hid (∀ l,z5x (fun q:ByteArray=>q) l→(∀ q,q∈l↔∃ r∈D,r.path=q)→l.filterMap (zfj D (zdt es) m)=zfk D (zdt es) m):=hd_ (fun l h1 h2=>zfy h1 h2 h6);generalize zfk D (zdt es) m=WL at HW ⊢;clear he hR hE hS h6 hA hBox;go_enter func13,ntmps13;go_upto_region 1 with fail;generalize w.alloc (.cells #[.slice Ar D.length cr,dr] 26)=W1 at HA HBX ⊢;have HC1:=hd_ (HCK.out W1 HA.out);go_wp2_with fail;refine HC1.out.mono ?_;rintro e w2 ⟨rfl,hb⟩;have HB2:=hd_ (z0r HA.out hb);have HBX2:=hd_ (HBX.out.below hb HBX.out.lt);have d0:w2.cell? ⟨w.heap.size,0,none⟩=some (.slice Ar D.length cr):=HBX2.out.cell 0;have d1:w2.cell? ⟨w.heap.size,1,none⟩=some dr:=HBX2.out.cell 1;have HC2:=hd_ (HPA.out w2 HB2.out);clear hb HCK HPA HC1;go_wp2_with fail;refine HC2.out.mono ?_;rintro e w3 ⟨v3,l,rfl,hb,hS3,hst,hmem⟩;obtain⟨A3,c3,rfl,hcc3,hmm3,-⟩:=id hS3;have HB3:=hd_ (z0r HB2.out hb);have HBX3:=hd_ (HBX2.out.below hb HBX2.out.lt);have HL3:=hd_ hS3;have HWL:=hd_ (HW.out l hst hmem);have HMEM:Hid (∀ k (hk:k<l.length),l[k]∈zff):=hd_ (fun k hk=>by
  obtain⟨r,hr,e⟩:=(hmem l[k]).1 (List.getElem_mem hk);rw[← e];exact H6.out r hr)
 have hlen6:l.length≤6:=by
  have hn:l.Nodup:=hst.imp fun {a b} h=>z5z h;exact zb6 (B:=zff) hn fun x hx=>by
   obtain⟨r,hr,e⟩:=(hmem x).1 hx;rw[← e];exact H6.out r hr
 unfold maxLen at hmm3;clear hb hS3 hst hmem d0 d1 HC2 HW;go_wp2_with fail;go_loopw [10,27] (fun lv i wr=>∃(k n:Nat) (A:Option Addr) (c:Nat),lv=.slice A n c∧i=.int .i64 k∧k≤l.length∧n≤k∧Hid (n=((l.take k).filterMap (zfj D (zdt es) m)).length∧Below w3.heap.size w3 wr∧wr.ownsRow w3.heap.size 44 3 (.slice A n c) n (((l.take k).filterMap (zfj D (zdt es) m)).flatMap Hav.cells))) (fun _ i _=>l.length - (intOf i).toNat)
 case atStart=>exact⟨0,0,none,0,rfl,rfl,Nat.zero_le _,Nat.le_refl _,hd_ ⟨rfl,Below.refl _ _,World.ownsRow_nil _ _ _ _⟩⟩
 case round =>
  obtain⟨k,n,A,c,rfl,rfl,hk,hnk,HI⟩:=hrel;by_cases hlt:k<l.length
  ·have HBW:=hd_ (z0r HB3.out HI.out.2.1);obtain⟨ad,rfl,hab,s0⟩:=Strs.at_ (HL3.out.below HI.out.2.1) hlt;have HT:=hd_ (zqr (zfj D (zdt es) m) l k hlt);have HP6:=hd_ (HMEM.out k hlt);generalize l[k]=p at s0 HT HP6;have HA1:=hd_ (HAT.out wr HBW.out p);have HWN:=hd_ (@zfu D (zdt es) m p);have HWG:=hd_ (fun r=>@zfv D (zdt es) m p r);have HWO:=hd_ (fun r=>@zfw D (zdt es) m p r);have HWY:=hd_ (fun r s=>@zfx D (zdt es) m p s r);have HFP:=hd_ (fun X hX=>HFW.out X hX p HP6.out);have HSP:=hd_ (HSM.out p HP6.out);have HBD:=hd_ (HBX3.out.below HI.out.2.1 HBX3.out.lt);have d0:wr.cell? ⟨w.heap.size,0,none⟩=some (.slice Ar D.length cr):=HBD.out.cell 0;have d1:wr.cell? ⟨w.heap.size,1,none⟩=some dr:=HBD.out.cell 1;have HLT:=hd_ hlt;clear hab;obtain⟨o,ho⟩:∃ o,z30 D p (fun v:Rev=>decide (v.chg≤m))=o:=⟨_,rfl⟩;rw[ho] at HA1 HWN HWG HWO HWY;generalize zfj D (zdt es) m p=wo at HT HWN HWG HWO HWY;clear ho;cases o with
   | none =>
    have HW0:=hd_ (HWN.out rfl);generalize hz:zec none=r at HA1;clear hz;go_wp2_with fail;refine HA1.out.mono ?_;rintro e w5 ⟨rfl,hb⟩;have HB5:=hd_ (z0r HI.out.2.1 (hb.alloc hb.size (.cells #[.string r.path,.int .i64 r.num,.int .i64 r.chg,.int .i64 r.act,.int .i64 r.ty.base,.bool r.ty.k,.bool r.ty.l,.bool r.ty.x,.int .u64 r.sum,.int .i64 r.size,.string r.frm,.int .i64 r.fnum] 66)));have HO5:=hd_ (z0n HI.out.2.2 (hb.alloc hb.size (.cells #[.string r.path,.int .i64 r.num,.int .i64 r.chg,.int .i64 r.act,.int .i64 r.ty.base,.bool r.ty.k,.bool r.ty.l,.bool r.ty.x,.int .u64 r.sum,.int .i64 r.size,.string r.frm,.int .i64 r.fnum] 66)));clear hb s0 d0 d1;go_wp2_with fail;go_roundw
    case rel=>exact⟨k+1,n,A,c,rfl,by go_num,by omega,by omega,hd_ (by rw[HT.out,HW0.out];simp only[Option.toList,List.append_nil];exact⟨HI.out.1,HB5.out,HO5.out⟩)⟩
    case measure=>simp [intOf];omega
   | some r =>
    change Hid (Calls _ _ _ _ fun e w'=>e=.returned (.tuple #[.agg #[.string r.path,.int .i64 r.num,.int .i64 r.chg,.int .i64 r.act,.int .i64 r.ty.base,.bool r.ty.k,.bool r.ty.l,.bool r.ty.x,.int .u64 r.sum,.int .i64 r.size,.string r.frm,.int .i64 r.fnum],.bool true])∧_) at HA1;have hX:=fun(X:World)=>z0l X [.string r.path,.int .i64 r.num,.int .i64 r.chg,.int .i64 r.act,.int .i64 r.ty.base,.bool r.ty.k,.bool r.ty.l,.bool r.ty.x,.int .u64 r.sum,.int .i64 r.size,.string r.frm,.int .i64 r.fnum] 66;by_cases h3:r.act=3∨r.act=5
    ·have HW0:=hd_ (HWG.out r rfl (by unfold z2v;rcases h3 with h | h <;> rw[h] <;> rfl))
     have HSPLIT:Hid (((r.act == 3)=true)∨((r.act == 3)=false∧(r.act == 5)=true)):=hd_ (by
      rcases h3 with h | h
      ·exact .inl (by rw[h];rfl)
      ·exact .inr ⟨by rw[h];rfl,by rw[h];rfl⟩)
     clear h3;go_wp2_with fail;refine HA1.out.mono ?_;rintro e w5 ⟨rfl,hb⟩;have hb5:=hb.alloc hb.size (.cells #[.string r.path,.int .i64 r.num,.int .i64 r.chg,.int .i64 r.act,.int .i64 r.ty.base,.bool r.ty.k,.bool r.ty.l,.bool r.ty.x,.int .u64 r.sum,.int .i64 r.size,.string r.frm,.int .i64 r.fnum] 66);have HB5:=hd_ (z0r HI.out.2.1 hb5);have HO5:=hd_ (z0n HI.out.2.2 hb5);have e3:(w5.alloc (.cells #[.string r.path,.int .i64 r.num,.int .i64 r.chg,.int .i64 r.act,.int .i64 r.ty.base,.bool r.ty.k,.bool r.ty.l,.bool r.ty.x,.int .u64 r.sum,.int .i64 r.size,.string r.frm,.int .i64 r.fnum] 66)).cell? ⟨w5.heap.size,3,none⟩=some (.int .i64 r.act):=(hX w5).cell 3;clear hb hb5 s0 d0 d1 hX;go_upto_region 9 with fail;generalize w5.alloc (.cells #[.string r.path,.int .i64 r.num,.int .i64 r.chg,.int .i64 r.act,.int .i64 r.ty.base,.bool r.ty.k,.bool r.ty.l,.bool r.ty.x,.int .u64 r.sum,.int .i64 r.size,.string r.frm,.int .i64 r.fnum] 66)=W5 at HB5 HO5 e3 ⊢;rcases HSPLIT.out with q | ⟨q,q'⟩
     all_goals
      go_wp2_with fail;go_roundw
      case rel=>exact⟨k+1,n,A,c,rfl,by go_num,by omega,by omega,hd_ (by rw[HT.out,HW0.out];simp only[Option.toList,List.append_nil];exact⟨HI.out.1,HB5.out,HO5.out⟩)⟩
      case measure=>simp [intOf];omega
    ·have q3:(r.act == 3)=false:=by rw[beq_eq_false_iff_ne];exact fun h=>h3 (.inl h)
     have q5:(r.act == 5)=false:=by rw[beq_eq_false_iff_ne];exact fun h=>h3 (.inr h)
     have HLV:Hid (z2v r.act=true):=hd_ (by unfold z2v;rw[bne,bne,q3,q5];rfl)
     clear h3;go_wp2_with fail;refine HA1.out.mono ?_;rintro e w5 ⟨rfl,hb⟩;have hb5:=hb.alloc hb.size (.cells #[.string r.path,.int .i64 r.num,.int .i64 r.chg,.int .i64 r.act,.int .i64 r.ty.base,.bool r.ty.k,.bool r.ty.l,.bool r.ty.x,.int .u64 r.sum,.int .i64 r.size,.string r.frm,.int .i64 r.fnum] 66);have HB5:=hd_ (z0r HI.out.2.1 hb5);have HO5:=hd_ (z0n HI.out.2.2 hb5);have HX5:=hd_ (hX w5);have e3:(w5.alloc (.cells #[.string r.path,.int .i64 r.num,.int .i64 r.chg,.int .i64 r.act,.int .i64 r.ty.base,.bool r.ty.k,.bool r.ty.l,.bool r.ty.x,.int .u64 r.sum,.int .i64 r.size,.string r.frm,.int .i64 r.fnum] 66)).cell? ⟨w5.heap.size,3,none⟩=some (.int .i64 r.act):=(hX w5).cell 3;clear hb hb5 s0 d0 d1 hX;go_upto_region 9 with fail;generalize w5.alloc (.cells #[.string r.path,.int .i64 r.num,.int .i64 r.chg,.int .i64 r.act,.int .i64 r.ty.base,.bool r.ty.k,.bool r.ty.l,.bool r.ty.x,.int .u64 r.sum,.int .i64 r.size,.string r.frm,.int .i64 r.fnum] 66)=W5 at HB5 HO5 HX5 e3 ⊢;generalize w5.heap.size=g13 at HX5 e3 ⊢;have HF5:=hd_ (HFP.out W5 (z0r HB3.out HB5.out));obtain⟨fo,hfo⟩:∃ fo,zdt es p=fo:=⟨_,rfl⟩;rw[hfo] at HF5;have HFO:=hd_ hfo;clear hfo;cases fo with
     | none =>
      have HW0:=hd_ (HWO.out r rfl HFO.out);go_wp2_with fail;refine HF5.out.mono ?_;rintro e w6 ⟨rfl,hb⟩;have HB6:=hd_ (z0r HB5.out hb);have HO6:=hd_ (z0n HO5.out hb);clear hb e3;go_wp2_with fail;go_roundw
      case rel=>exact⟨k+1,n,A,c,rfl,by go_num,by omega,by omega,hd_ (by rw[HT.out,HW0.out];simp only[Option.toList,List.append_nil];exact⟨HI.out.1,HB6.out,HO6.out⟩)⟩
      case measure=>simp [intOf];omega
     | some s =>
      have HW0:=hd_ (HWY.out r s rfl HLV.out HFO.out);have hsz:=HSP.out s HFO.out;have q200:decide ((200:Int)<(s.size:Int))=false:=by simp;omega
      have q200':decide (200<s.size)=false:=by simp;omega
      go_wp2_with fail;refine HF5.out.mono ?_;rintro e w6 ⟨rfl,hb⟩;have HB6:=hd_ (z0r HB5.out hb);have HO6:=hd_ (z0n HO5.out hb);have e1:w6.cell? ⟨g13,1,none⟩=some (.int .i64 r.num):=(HX5.out.below hb HX5.out.lt).cell 1;clear hb e3;have hba:Below w6.heap.size w6 (w6.alloc (.cells #[.string p,.int .i64 r.num,.string s] 44)):=(Below.refl _ _).alloc (Nat.le_refl _) _;have HO7:=hd_ (z0n HO6.out hba);have HB7:=hd_ (z0r HB6.out hba);have hrow:=z0i w6 [.string p,.int .i64 r.num,.string s] 44 3 1 rfl (by decide) _ rfl
      clear hba;go_wp2_with (at_builtin;refine z0k rfl rfl z54 HO7.out rfl hrow rfl HB7.out HB7.out.size (z55 ⟨p,r.num,s⟩) (by omega) (by unfold maxLen;omega) ?_;intro A' c' w8 hown8 hbl8)
      have HN:Hid (n+1=((l.take (k+1)).filterMap (zfj D (zdt es) m)).length∧Below w3.heap.size w3 w8∧w8.ownsRow w3.heap.size 44 3 (.slice A' (n+1) c') (n+1) (((l.take (k+1)).filterMap (zfj D (zdt es) m)).flatMap Hav.cells)):=hd_ (by
       rw[HT.out,HW0.out];refine⟨by rw[List.length_append,← HI.out.1];rfl,hbl8,?_⟩
       rw[List.flatMap_append];exact hown8)
      clear hown8 hbl8;go_wp2_with fail;go_roundw
      case rel=>exact⟨k+1,n+1,A',c',rfl,by go_num,by omega,by omega,HN⟩
      case measure=>simp [intOf];omega
  ·have hke:k=l.length:=by omega
   subst hke;rw[List.take_length,HWL.out] at HI;have hge:¬((l.length:Int)<(l.length:Int)):=by omega
   go_wp2_with fail;go_ret2;refine⟨_,rfl,?_,z0r HB3.out HI.out.2.1⟩;have h:=Row.of_own HI.out.2.2;rw[HI.out.1] at h ⊢;exact h
structure zr9 where
 l:Pat
 r:Pat
 hs:List Pat
def zd8.pl (x:zd8):zr9:=⟨x.l.1,x.r.1,x.hs.map (·.1)⟩
def zg1 (c:UInt8):ByteArray:=⟨#[c]⟩
def zg2:ByteArray:=⟨#[42]⟩
def zg3:Nat→List zr9
 | 0=>[⟨⟨[zg1 100],true⟩,⟨[zg1 99],true⟩,[]⟩]
 | 1=>[⟨⟨[zg1 100],true⟩,⟨[zg1 99],true⟩,[⟨[zg1 100,zg1 120],true⟩]⟩]
 | 2=>[⟨⟨[zg1 100,zg1 120],true⟩,⟨[zg1 99],true⟩,[]⟩,⟨⟨[zg1 101],true⟩,⟨[zg1 119],true⟩,[]⟩]
 | 3=>[⟨⟨[zg1 100,zg1 97],false⟩,⟨[zg1 99,zg1 98],false⟩,[]⟩,⟨⟨[zg1 100,zg1 98],false⟩,⟨[zg1 99,zg1 97],false⟩,[]⟩,⟨⟨[zg1 100,zg1 120],true⟩,⟨[zg1 99,zg1 120],true⟩,[]⟩]
 | 4=>[⟨⟨[zg1 100,zg1 97],false⟩,⟨[zg1 99,zg1 97],false⟩,[]⟩,⟨⟨[zg1 100,zg1 98],false⟩,⟨[zg1 99,zg1 98],false⟩,[]⟩,⟨⟨[zg1 101,zg1 97],false⟩,⟨[zg1 99,zg1 101],false⟩,[]⟩]
 | 5=>[⟨⟨[zg1 101],true⟩,⟨[zg1 99],true⟩,[]⟩,⟨⟨[zg1 100,zg2,zg1 97],false⟩,⟨[zg1 119,zg2,zg1 122],false⟩,[]⟩]
 | 6=>[⟨⟨[zg1 100],true⟩,⟨[zg1 99],true⟩,[]⟩,⟨⟨[zg1 101],true⟩,⟨[zg1 119],true⟩,[]⟩]
 | _=>[]
def regP (b:Pat)(hs:List Pat):Int:=if z7e b≠0 then 50 else if (hs.all fun q=>decide (z7e q=0))=false then 51 else if 64<hs.length then 52 else 0
theorem regE_pl (b:Pat)(hs:List zd1):zd3 b hs=regP b (hs.map (·.1)):=by
 unfold zd3 regP;rw[List.length_map,List.all_map];rfl
def zg4 (p:Pat):Bool:=p.rest && decide (z7e p=0) && p.parts.all fun x=>!z79 x
theorem zg5 {p:Pat}(h:zg4 p=true):zcm p:=by
 unfold zg4 at h;simp only[Bool.and_eq_true,List.all_eq_true,Bool.not_eq_true',decide_eq_true_eq] at h
 exact⟨h.1.1,h.1.2,h.2⟩
def wiB (p q:Pat):Bool:=decide (q.parts.length≤p.parts.length) && (List.range q.parts.length).all fun k=>z9s ((p.parts[k]?).getD z2l) ((q.parts[k]?).getD z2l)
theorem wiB_ok {p q:Pat}(h:wiB p q=true):WiOk p q:=by
 unfold wiB at h;simp only[Bool.and_eq_true,List.all_eq_true,decide_eq_true_eq,List.mem_range] at h
 refine⟨h.1,fun k hk=>?_⟩;have:=h.2 k hk;rw[List.getElem?_eq_getElem hk,List.getElem?_eq_getElem (Nat.lt_of_lt_of_le hk h.1)] at this;exact this
def narB (l r h:Pat):Bool:=match zai l h with
 | none=>false
 | some m=>zg4 l && zg4 r && decide (za8 l r=0) && decide (z7e h=0) && m.rest && decide (z7e m=0) && wiB m l && decide (r.parts.length+(m.parts.length - l.parts.length)≤12)
theorem narB_ok {l r h:Pat}(e:narB l r h=true):∃ m,zcw l r h m:=by
 unfold narB at e;cases hm:zai l h with
 | none=>rw[hm] at e;cases e
 | some m =>
  rw[hm] at e;simp only[Bool.and_eq_true,decide_eq_true_eq] at e
  obtain⟨⟨⟨⟨⟨⟨⟨e1,e2⟩,e3⟩,e4⟩,e5⟩,e6⟩,e7⟩,e8⟩:=e;exact⟨m,zg5 e1,zg5 e2,e3,e4,hm,e5,e6,wiB_ok e7,e8⟩
def zra (p:Pat)(caps:List ByteArray):Bool:=
 decide (z7e p=0) && decide (caps.length=za2 p+(if p.rest then 1 else 0)) && (caps.take (za2 p)).all z0v && (!p.rest || (caps.drop (za2 p)).all fun c=>(z1a c.data.toList).all z0u) &&
  (caps.all fun c=>decide (c.size≤1000000)) && decide ((Lib.join ((zbt p caps).map (·.data.toList)) [47]).length≤1000000) && decide (0<(zbt p caps).length)
theorem zg6 {p:Pat}{caps:List ByteArray}(h:zra p caps=true):zbv p caps:=by
 unfold zra at h;simp only[Bool.and_eq_true,Bool.or_eq_true,Bool.not_eq_true',List.all_eq_true,decide_eq_true_eq] at h
 obtain⟨⟨⟨⟨⟨⟨h1,h2⟩,h3⟩,h4⟩,h5⟩,h6⟩,h7⟩:=h;refine⟨h1,h2,h3,fun hr c hc=>?_,h5,h6,h7⟩;rcases h4 with h4 | h4
 ·rw[h4] at hr;cases hr
 ·exact List.all_eq_true.2 (h4 c hc)
def entB (x:zr9):Bool:=decide (za8 x.l x.r=0) && decide (regP x.l x.hs=0) && x.hs.all (narB x.l x.r)
def mapB (es:List zr9):Bool:=decide (es.length≤32) && es.all entB && (List.range es.length).all fun i=>(List.range i).all fun j=>match es[i]?,es[j]? with
 | some x,some y=>(zai x.l y.l).isNone && (zai x.r y.r).isNone
 | _,_=>false
theorem mapB_ok {es:List zd8}(h:mapB (es.map zd8.pl)=true):zdj es:=by
 unfold mapB at h;simp only[Bool.and_eq_true,List.all_eq_true,decide_eq_true_eq,List.mem_range,List.length_map,List.mem_map,forall_exists_index,and_imp,forall_apply_eq_imp_iff₂] at h
 obtain⟨⟨h1,h2⟩,h3⟩:=h;refine⟨h1,fun x hx=>?_,fun i j hi hj=>?_⟩
 ·have:=h2 x hx;unfold entB at this;simp only[Bool.and_eq_true,List.all_eq_true,decide_eq_true_eq] at this
  refine⟨this.1.1,by rw[regE_pl];exact this.1.2,fun q hq=>?_⟩
  exact narB_ok (this.2 q.1 (List.mem_map.2 ⟨q,hq,rfl⟩))
 ·have:=h3 i hi j hj;rw[List.getElem?_map,List.getElem?_map,List.getElem?_eq_getElem hi,List.getElem?_eq_getElem (Nat.lt_trans hj hi)] at this;simp only[Option.map_some,Bool.and_eq_true,Option.isNone_iff_eq_none] at this
  exact this
def zg7 (x:zr9)(p:ByteArray):Option ByteArray:=match zc2 x.l x.r p with
 | none=>none
 | some s=>if x.hs.any (fun q=>(z8e q p).isSome) then none else some s
def fwdP (es:List zr9)(p:ByteArray):Option ByteArray:=es.findSome? (zg7 · p)
theorem fwdM_pl (es:List zd8)(p:ByteArray):zdt es p=fwdP (es.map zd8.pl) p:=by
 unfold zdt fwdP;induction es with
 | nil=>rfl
 | cons x es ih =>
  rw[List.map_cons,List.findSome?_cons,List.findSome?_cons,ih];have:zds x p=zg7 x.pl p:=by
   unfold zds zg7 zdp;show (match zc2 x.l.1 x.r.1 p with | none=>none | some s=>_)=(match zc2 x.l.1 x.r.1 p with | none=>none | some s=>if (x.hs.map (·.1)).any _=true then none else some s)
   rw[List.any_map];rfl
  rw[this]
theorem maps_B:∀ k<8,mapB (zg3 k)=true:=by decide +kernel
theorem zg8:∀ k<8,∀ p∈zff,fwdP (zg3 k) p=zfq k p:=by decide +kernel
theorem zg9:∀ k<8,∀ p∈zff,∀ x∈zg3 k,((z8e x.l p).map (zra x.r)).getD true=true:=by decide +kernel
theorem zga:∀ k<8,∀ p∈zff,((zfq k p).map fun s=>decide (s.size≤200)).getD true=true:=by decide +kernel
theorem zgb {es:List zd8}{k:Nat}(hk:k<8)(h:es.map zd8.pl=zg3 k):zfs es∧∀ p∈zff,zdt es p=zfq k p:=by
 have hf:∀ p∈zff,zdt es p=zfq k p:=fun p hp=>by rw[fwdM_pl,h];exact zg8 k hk p hp
 refine⟨⟨mapB_ok (by rw[h];exact maps_B k hk),fun p hp x hx caps hc=>?_,fun p hp s hs=>?_⟩,hf⟩
 ·have:=zg9 k hk p hp x.pl (by rw[← h];exact List.mem_map.2 ⟨x,hx,rfl⟩)
  have e:z8e x.pl.l p=some caps:=hc;rw[e] at this;exact zg6 this
 ·rw[hf p hp] at hs;have:=zga k hk p hp;rw[hs] at this;simpa using this
theorem zgc {D:List Rev}{f g:ByteArray→Option ByteArray}{m:Int}(h:∀ p∈zff,f p=g p):zfk D f m=zfk D g m:=by
 unfold zfk;refine z6m fun p hp=>?_;unfold zfj;rw[h p hp]
open Go.Sort (grow)
def zl9 (w:World)(pl:List Syn)(e:Ending)(w':World):Prop:=∃ v,e=.returned (.tuple #[v,.int .i64 0])∧z4z w' v pl∧Below w.heap.size w w'
theorem zla:∀(n:Nat) (hs ws:List Hav),(z6h n hs ws).length≤n:=by
 intro n;induction n with
 | zero=>intro hs ws;exact Nat.le_refl _
 | succ n ih =>
  intro hs ws;cases hs with
  | nil =>
   cases ws with
   | nil=>exact Nat.zero_le _
   | cons y ws=>exact Nat.succ_le_succ (ih [] ws)
  | cons x hs =>
   cases ws with
   | nil=>exact Nat.succ_le_succ (ih hs [])
   | cons y ws =>
    unfold z6h;split
    ·exact Nat.succ_le_succ (ih _ _)
    ·split
     ·exact Nat.succ_le_succ (ih _ _)
     ·split
      ·exact Nat.le_succ_of_le (ih _ _)
      ·exact Nat.succ_le_succ (ih _ _)
theorem zlb {hs ws:List Hav}{op dt:List ByteArray}(h1:zf0 hs)(h2:zf0 ws):∀ x∈zf8 hs ws op dt,x.frm=zk4 hs x.path:=by
 intro x hx;obtain⟨i1,i2⟩:=zfc (op:=op) (dt:=dt) h1 h2;have hg:z6e (zf8 hs ws op dt) x.path=some x:=z65 i1 hx;rw[i2,Option.map_eq_some_iff] at hg;obtain⟨y,e1,e2⟩:=hg;have e3:x.frm=y.frm:=by rw[← e2];rfl
 rw[e3];unfold zk4;rcases zfb e1 with⟨a,e4,-,rfl⟩ | ⟨b,e4,-,rfl⟩ | ⟨a,b,e4,-,-,rfl⟩
 ·rw[e4];rfl
 ·rw[e4];rfl
 ·rw[e4];rfl
theorem zlc {hs:List Hav}(h:zf0 hs):∀ x∈hs,x.path.size≤200∧x.loc.size≤200:=fun x hx=>by
 obtain⟨h1,h2,-⟩:=zf1 (h.ok x hx);exact⟨(zf2 h1).2.1,(zf2 h2).2.1⟩
theorem rcT9 (T:Code)(hT:Tryz.f93.body.bind (zhv 9)=some T)(P:Ending→World→Prop)(W:World)(A:Option Addr)(c:Nat)(es:List zd8)(hE:zdi W (.slice A es.length c) es)(hl:es.length≤32)
  (hR:∀ x∈es,∀ X,Below W.heap.size W X→Calls prog 138 #[x.val] X (zo0 X x.r.v x.r.1.rest))
  (hT16:∀ T',Tryz.f93.body.bind (zhv 16)=some T'→∀ W',Below W.heap.size W W'→∀(u1 u2 u3 u4 u5 u6 u7 u8 u9 gn gt gu gx gy gz gA gC gD gE gF gG gH gI gJ gK gL gM gN gO gP gQ gR gT gV gW gX gY gZ i6 i7 i8 ia ib ic ie ig ii ij ik il im io ip iq ir iu iv iw ix iy iz iA iB iC iD iE iF iG iH iI iJ iK iL iM iN iO iP iQ iR iS iT iU iV iW iX iY iZ j0 j1 j2 j5:Value),T'.wp prog (bodyPost prog Tryz.f93 P) ⟨#[.slice A es.length c,u1,u2,u3,u4,u5,u6,u7,u8,u9,gn,gt,gu,gx,gy,gz,gA,gC,gD,gE,gF,gG,gH,gI,gJ,gK,gL,gM,gN,gO,gP,gQ,gR,gT,gV,gW,gX,gY,gZ,i6,i7,i8,ia,ib,ic,ie,ig,ii,ij,ik,il,im,io,ip,iq,ir,iu,iv,iw,ix,iy,iz,iA,iB,iC,iD,iE,iF,iG,iH,iI,iJ,iK,iL,iM,iN,iO,iP,iQ,iR,iS,iT,iU,iV,iW,iX,iY,iZ,j0,j1,j2,j5],[]⟩ W')
  (u1 u2 u3 u4 u5 u6 u7 u8 u9 gn gt gu gx gy gz gA gC gD gE gF gG gH gI gJ gK gL gM gN gO gP gQ gR gT gV gW gX gY gZ i6 i7 i8 ia ib ic ie ig ii ij ik il im io ip iq ir iu iv iw ix iy iz iA iB iC iD iE iF iG iH iI iJ iK iL iM iN iO iP iQ iR iS iT iU iV iW iX iY iZ j0 j1 j2 j5:Value):
  T.wp prog (bodyPost prog Tryz.f93 P) ⟨#[.slice A es.length c,u1,u2,u3,u4,u5,u6,u7,u8,u9,gn,gt,gu,gx,gy,gz,gA,gC,gD,gE,gF,gG,gH,gI,gJ,gK,gL,gM,gN,gO,gP,gQ,gR,gT,gV,gW,gX,gY,gZ,i6,i7,i8,ia,ib,ic,ie,ig,ii,ij,ik,il,im,io,ip,iq,ir,iu,iv,iw,ix,iy,iz,iA,iB,iC,iD,iE,iF,iG,iH,iI,iJ,iK,iL,iM,iN,iO,iP,iQ,iR,iS,iT,iU,iV,iW,iX,iY,iZ,j0,j1,j2,j5],[]⟩ W:=by
 simp only[Tryz.f93,Option.bind_some,zhv,zhu] at hT
 simp at hT
 subst hT;have HE:=hd_ (fun X (hX:Below W.heap.size W X)=>hE.below hX);have HR:=hd_ hR;have HT:=hd_ hT16;clear hE hR hT16;go_wp2_with fail;go_loopw [42] (fun i wr=>∃ k:Nat,i=.int .i64 k∧k≤es.length∧Hid (Below W.heap.size W wr)) (fun i _=>es.length - (intOf i).toNat)
 case atStart=>exact⟨0,rfl,Nat.zero_le _,hd_ (Below.refl _ _)⟩
 case round =>
  obtain⟨k,rfl,hk,HI⟩:=hrel;by_cases hlt:k<es.length
  ·have HEX:=hd_ (HE.out wr HI.out);obtain⟨ad,rfl,hab,s0,s1,s2,s3,s4⟩:=HEX.out.at_ hlt;have HXI:=hd_ (HEX.out.2 es[k] (List.getElem_mem hlt));have HXR:=hd_ (HR.out es[k] (List.getElem_mem hlt));generalize es[k]=x at s0 s1 s2 s3 s4 HXI HXR;obtain⟨H,hc,hhv⟩:=HXI.out.holes;obtain⟨⟨pl,Al,cl⟩,⟨pr,Ar,cr⟩,hv,hs⟩:=x;change hv=.slice H hs.length hc at hhv;subst hhv;change wr.cell? _=some (.slice Al pl.parts.length cl) at s0;change wr.cell? _=some (.bool pl.rest) at s1;change wr.cell? _=some (.slice Ar pr.parts.length cr) at s2;change wr.cell? _=some (.bool pr.rest) at s3;change wr.cell? _=some (.slice H hs.length hc) at s4;have hX:Below wr.heap.size wr (wr.alloc (.cells #[.slice Al pl.parts.length cl,.bool pl.rest,.slice Ar pr.parts.length cr,.bool pr.rest,.slice H hs.length hc] 100)):=(Below.refl _ _).alloc (Nat.le_refl _) _;have HX:=hd_ (z0r HI.out hX);have HN:Hid (Blk (wr.alloc (.cells #[.slice Al pl.parts.length cl,.bool pl.rest,.slice Ar pr.parts.length cr,.bool pr.rest,.slice H hs.length hc] 100)) wr.heap.size 100 [.slice Al pl.parts.length cl,.bool pl.rest,.slice Ar pr.parts.length cr,.bool pr.rest,.slice H hs.length hc]):=hd_ (z0l wr _ _);have HLT:=hd_ hlt;clear hab hX;go_upto_region 12 with fail;generalize wr.alloc (.cells #[.slice Al pl.parts.length cl,.bool pl.rest,.slice Ar pr.parts.length cr,.bool pr.rest,.slice H hs.length hc] 100)=W4 at HX HN ⊢;generalize wr.heap.size=g7 at HN ⊢;clear s0 s1 s2 s3 s4;obtain⟨x0,x1,x2,x3,x4⟩:=(⟨HN.out.cell 0,HN.out.cell 1,HN.out.cell 2,HN.out.cell 3,HN.out.cell 4⟩:W4.cell? ⟨g7,0,none⟩=some (.slice Al pl.parts.length cl)∧W4.cell? ⟨g7,1,none⟩=some (.bool pl.rest)∧W4.cell? ⟨g7,2,none⟩=some (.slice Ar pr.parts.length cr)∧W4.cell? ⟨g7,3,none⟩=some (.bool pr.rest)∧W4.cell? ⟨g7,4,none⟩=some (.slice H hs.length hc));have HRC:Hid (Calls prog 138 #[.agg #[.slice Al pl.parts.length cl,.bool pl.rest,.slice Ar pr.parts.length cr,.bool pr.rest,.slice H hs.length hc]] W4 (zo0 W4 (.slice Ar pr.parts.length cr) pr.rest)):=hd_ (HXR.out W4 HX.out)
   go_wp2_with fail;refine HRC.out.mono ?_;rintro e w5 ⟨hb,H9,n9,c9,rfl⟩;dsimp only;have hX:Below w5.heap.size w5 (w5.alloc (.cells #[.slice Ar pr.parts.length cr,.bool pr.rest,.slice H9 n9 c9] 115)):=(Below.refl _ _).alloc (Nat.le_refl _) _;have HB:=hd_ (z0r HX.out (z0r hb hX));clear hb hX x0 x1 x2 x3 x4 HRC;go_wp2_with fail;go_roundw
   case rel=>exact⟨k+1,by go_num,by omega,HB⟩
   case measure=>simp [intOf];omega
  ·have hke:k=es.length:=by omega
   subst hke;have HB:=hd_ HI.out;have hge:¬((es.length:Int)<(es.length:Int)):=by omega
   rename ∀ a w,Code.wp _ (Code.seq (Code.seq (Code.region 16 _ _) _) _) _ a w→_=>hk7
   have HK7:=hd_ hk7;clear hk7 HI;go_wp2_with fail;exact HK7.out _ _ (HT.out _ (by kernel_rfl) wr HB.out _ _ _ _ _ _ _ _ _ _ _ _ _ _ _ _ _ _ _ _ _ _ _ _ _ _ _ _ _ _ _ _ _ _ _ _ _ _ _ _ _ _ _ _ _ _ _ _ _ _ _ _ _ _ _ _ _ _ _ _ _ _ _ _ _ _ _ _ _ _ _ _ _ _ _ _ _ _ _ _ _ _ _ _ _ _ _ _ _ _ _)
section
variable {u0 u1 u2 u3 u4 u5 u6 u7 u8 u9 gn gt gu gx gy gz gA gC gD gE gF gG gH gI gJ gK gL gM gN gO gP gQ gR gT gV gW gX gY gZ i6 i7 i8 ia ib ic ie ig ii ij ik il im io ip iq ir iu iv iw ix iy iz iA iB iC iD iE iF iG iH iI iJ iK iL iM iN iO iP iQ iR iS iT iU iV iW iX iY iZ j0 j1 j2 j5 j6 j7 j8 j9 jb jd je jf bw bz bA bB bD bE bF bG bH bI bJ bK bL bM bN bO bP bQ bT bU bV bW bX bY bZ ca cj ck cn cx cy cz cA cB cD cE cG cH cI cJ cM cN cO cP cQ cT cU cW cZ da db dc dd de df dg dh di dj dm du dw dz dA dB dC dD dE dF dG dH dI dJ dK dL dM dN dO dP dQ dR dS dT dU dV dW dX dY dZ ec : Value}
theorem chR23 (ops:Array Oper)(hops:Tryz.f59.body.bind (zci 23)=some ops)(Q:Exit→Act→World→Prop)(V:World)(g18 g20:Nat)(v:Rev)(x:Edt)(h18:Blk V g18 66 [.string v.path,.int .i64 v.num,.int .i64 v.chg,.int .i64 v.act,.int .i64 v.ty.base,.bool v.ty.k,.bool v.ty.l,.bool v.ty.x,.int .u64 v.sum,.int .i64 v.size,.string v.frm,.int .i64 v.fnum])(h20:Blk V g20 90 [.string x.path,.int .i64 x.act,.int .i64 x.ty.base,.bool x.ty.k,.bool x.ty.l,.bool x.ty.x,.int .u64 x.sum,.int .i64 x.size,.int .i64 x.base,.string x.frm,.int .i64 x.fnum,.int .i64 x.fence])(hne:g20≠g18)
  (hQ:∀(aR aS aT aU aV aW aX aY aZ ba bd bf bg:Value) (w':World),Blk w' g20 90 [.string x.path,.int .i64 4,.int .i64 v.ty.base,.bool v.ty.k,.bool v.ty.l,.bool v.ty.x,.int .u64 v.sum,.int .i64 v.size,.int .i64 x.base,.string v.path,.int .i64 v.num,.int .i64 x.fence]→V.grownBy w' (some g20)→Q .normal ⟨#[u0,u1,u2,u3,u4,u5,u6,u7,u8,u9,gn,gt,gu,gx,gy,gz,gA,gC,gD,gE,.pointer (some ⟨g20,0,none⟩),.pointer (some ⟨g18,0,none⟩),gH,gI,gJ,gK,gL,gM,gN,gO,gP,gQ,gR,gT,gV,gW,gX,gY,gZ,i6,i7,i8,ia,ib,ic,ie,ig,ii,ij,ik,il,im,io,ip,iq,ir,iu,iv,iw,ix,iy,iz,iA,iB,iC,iD,iE,iF,iG,iH,iI,iJ,iK,iL,iM,iN,iO,iP,iQ,iR,iS,iT,iU,iV,iW,iX,iY,iZ,j0,j1,j2,j5,j6,j7,j8,j9,jb,jd,je,jf,bw,bz,bA,bB,bD,bE,bF,bG,bH,bI,bJ,bK,bL,bM,bN,bO,bP,bQ,bT,bU,bV,bW,bX,bY,bZ,ca,cj,ck,cn,cx,cy,cz,cA,cB,cD,cE,cG,cH,cI,cJ,aR,aS,aT,aU,aV,aW,aX,aY,aZ,ba,bd,bf,bg,de,df,dg,dh,di,dj,dm,du,dw,dz,dA,dB,dC,dD,dE,dF,dG,dH,dI,dJ,dK,dL,dM,dN,dO,dP,dQ,dR,dS,dT,dU,dV,dW,dX,dY,dZ,ec],[]⟩ w'):
  (Code.region 23 ops true).wp prog Q ⟨#[u0,u1,u2,u3,u4,u5,u6,u7,u8,u9,gn,gt,gu,gx,gy,gz,gA,gC,gD,gE,.pointer (some ⟨g20,0,none⟩),.pointer (some ⟨g18,0,none⟩),gH,gI,gJ,gK,gL,gM,gN,gO,gP,gQ,gR,gT,gV,gW,gX,gY,gZ,i6,i7,i8,ia,ib,ic,ie,ig,ii,ij,ik,il,im,io,ip,iq,ir,iu,iv,iw,ix,iy,iz,iA,iB,iC,iD,iE,iF,iG,iH,iI,iJ,iK,iL,iM,iN,iO,iP,iQ,iR,iS,iT,iU,iV,iW,iX,iY,iZ,j0,j1,j2,j5,j6,j7,j8,j9,jb,jd,je,jf,bw,bz,bA,bB,bD,bE,bF,bG,bH,bI,bJ,bK,bL,bM,bN,bO,bP,bQ,bT,bU,bV,bW,bX,bY,bZ,ca,cj,ck,cn,cx,cy,cz,cA,cB,cD,cE,cG,cH,cI,cJ,cM,cN,cO,cP,cQ,cT,cU,cW,cZ,da,db,dc,dd,de,df,dg,dh,di,dj,dm,du,dw,dz,dA,dB,dC,dD,dE,dF,dG,dH,dI,dJ,dK,dL,dM,dN,dO,dP,dQ,dR,dS,dT,dU,dV,dW,dX,dY,dZ,ec],[]⟩ V:=by
 simp only[Tryz.f59,Option.bind_some,zci] at hops
 simp at hops
 subst hops;have HQ:=hd_ hQ;have H20:=hd_ h20;obtain⟨r0,r1,r2,r3,r4,r5,r6,r7,r8,r9,r10,r11⟩:=z7z h18;obtain⟨x0,x1,x2,x3,x4,x5,x6,x7,x8,x9,x10,x11⟩:=z7z h20;obtain⟨f0,f1,f2,f3,f4,f5,f6,f7,f8,f9,f10,f11⟩:=zdz h20;have hne2:¬(g18=g20):=fun e=>hne e.symm;have H18:=hd_ h18;have HC:Hid (∀ w',Blk w' g18 66 [.string v.path,.int .i64 v.num,.int .i64 v.chg,.int .i64 v.act,.int .i64 v.ty.base,.bool v.ty.k,.bool v.ty.l,.bool v.ty.x,.int .u64 v.sum,.int .i64 v.size,.string v.frm,.int .i64 v.fnum]→w'.cell? ⟨g18,0,none⟩=some (.string v.path)∧w'.cell? ⟨g18,1,none⟩=some (.int .i64 v.num)∧w'.cell? ⟨g18,4,none⟩=some (.int .i64 v.ty.base)∧w'.cell? ⟨g18,5,none⟩=some (.bool v.ty.k)∧w'.cell? ⟨g18,6,none⟩=some (.bool v.ty.l)∧w'.cell? ⟨g18,7,none⟩=some (.bool v.ty.x)∧w'.cell? ⟨g18,8,none⟩=some (.int .u64 v.sum)∧w'.cell? ⟨g18,9,none⟩=some (.int .i64 v.size)):=hd_ fun w' h=>⟨h.cell 0,h.cell 1,h.cell 4,h.cell 5,h.cell 6,h.cell 7,h.cell 8,h.cell 9⟩;clear hQ h18 h20;go_region_held3 (fun w'=>Blk w' g18 66 [.string v.path,.int .i64 v.num,.int .i64 v.chg,.int .i64 v.act,.int .i64 v.ty.base,.bool v.ty.k,.bool v.ty.l,.bool v.ty.x,.int .u64 v.sum,.int .i64 v.size,.string v.frm,.int .i64 v.fnum]∧w'.cell? ⟨g18,0,none⟩=some (.string v.path)∧w'.cell? ⟨g18,1,none⟩=some (.int .i64 v.num)∧w'.cell? ⟨g18,4,none⟩=some (.int .i64 v.ty.base)∧w'.cell? ⟨g18,5,none⟩=some (.bool v.ty.k)∧w'.cell? ⟨g18,6,none⟩=some (.bool v.ty.l)∧w'.cell? ⟨g18,7,none⟩=some (.bool v.ty.x)∧w'.cell? ⟨g18,8,none⟩=some (.int .u64 v.sum)∧w'.cell? ⟨g18,9,none⟩=some (.int .i64 v.size))
  ((refine z3n ?_ (HC.out _);repeat (first | with_reducible assumption | with_reducible exact H18.out | with_reducible refine Blk.drew' ?_ | with_reducible refine Blk.far ?_ hne _)))
  (fail)
 all_goals exact HQ.out _ _ _ _ _ _ _ _ _ _ _ _ _ _ (Blk.drew' ((((((((((H20.out).set_ 1 (.int .i64 4)).set_ 9 (.string v.path)).set_ 10 (.int .i64 v.num)).set_ 2 (.int .i64 v.ty.base)).set_ 3 (.bool v.ty.k)).set_ 4 (.bool v.ty.l)).set_ 5 (.bool v.ty.x)).set_ 6 (.int .u64 v.sum)).set_ 7 (.int .i64 v.size))) (zpc (zpb (zpb (zpb (zpb (zpb (zpb (zpb (zpb (zpb (zpd _ _) 1 (.int .i64 4)) 9 (.string v.path)) 10 (.int .i64 v.num)) 2 (.int .i64 v.ty.base)) 3 (.bool v.ty.k)) 4 (.bool v.ty.l)) 5 (.bool v.ty.x)) 6 (.int .u64 v.sum)) 7 (.int .i64 v.size)))
end
open Go.RowKit Go.ChangeShapes Go.WideShapes Go.Deep
section
variable {H : Type} {enc : TypeId × Value → H} {P : Program} {w : World} {spare : Nat → Bool} {held : Bool}
theorem zpr {w:World}{b:Nat}{x:TypeId×Nat}(h:w.shape? b=some x):b<w.heap.size:=by
 rcases Nat.lt_or_ge b w.heap.size with h1 | h1
 ·exact h1
 ·have:w.heap[b]? = none:=Array.getElem?_eq_none h1;unfold World.shape? at h
  rw[this] at h;cases h
theorem zps {t e:TypeId}{r:Reach}{b0:Nat}{v:Value}{d:DataW H}{p:List MemPlace}(ht:P.underlying t=some (.slice e))(he:P.underlying e=some (.int .i64))(hc:P.cellsOf e=1)
  (hv:Value.okWide P w r b0 t v) (h:DataW.Trod enc P w 0 spare held t v d p):
  ∃(l:List Int) (A:Option Addr) (c:Nat),v=.slice A l.length c∧Row w 1 (.slice A l.length c) l.length (l.map fun(n:Int)=>.int .i64 n)∧∀ ad,A=some ad→ad.block<w.heap.size:=by
 obtain⟨a,n,c,rfl⟩:=okWide_slice ht hv;have hlt:∀ ad,a=some ad→ad.block<w.heap.size:=by
  rintro ad rfl;simp only[Value.okWide,ht,Cell.okWide,Cell.ok] at hv
  obtain⟨-,-,-,-,row,cells,hs,-⟩:=hv;exact zpr hs
 obtain⟨fuel,hf⟩:=h;rcases open_ints ht he hc hf with⟨hcs,_⟩ | ⟨x,l,c',zs,hcs,_,hl,hm,hz,_,hcell,hwz⟩
 ·simp [Value.cells] at hcs
  obtain⟨rfl,rfl,rfl⟩:=hcs;exact⟨[],none,0,rfl,Row.nil_ w 1,fun ad e=>by cases e⟩
 ·simp [Value.cells] at hcs
  obtain⟨rfl,rfl,rfl⟩:=hcs;have hzl:n≤zs.length:=by rw[hz];split <;> omega
  have hlen:(zs.take n).length=n:=by simp;omega
  refine⟨zs.take n,some x,c,by rw[hlen],?_,hlt⟩
  rw[hlen];refine⟨_,_,rfl,hl,hm,by simp;omega,fun h=>(by cases h),fun hn=>⟨x,rfl,hlt x rfl,fun j u hu=>?_⟩⟩
  have hj:j<n:=by
   have:=(List.getElem?_eq_some_iff.1 hu).1;simp at this;omega
  rw[hcell j (by omega),← hu]
  simp only[List.getElem?_map,List.getElem?_take,hj,if_true,List.getElem?_eq_getElem (show j<zs.length by omega),Option.map_some]
  simp only[List.getD_eq_getElem?_getD,List.getElem?_eq_getElem (show j<zs.length by omega),Option.getD_some]
end
theorem env_of {W:World}(h:W.ShapedOpen prog):Env W:=Tryz.laysM143.s1_3 W h
end Go.Proofs.YtegeboijhifmcaaGreatDoor
