/- A part. -/
import Derived.Test.YtijghobkkdbhnaaGreatDoorMcw14
import Derived.Test.YtijghobkkdbhnaaGreatDoorMcw16
set_option linter.unusedVariables false
set_option linter.unusedSimpArgs false
set_option maxHeartbeats 8000000
set_option maxRecDepth 100000
namespace Go.Proofs.YtijghobkkdbhnaaGreatDoor
open Go.Proofs.Tryz
open Go.RowKit
structure WiOk (p q:Pat):Prop where
 le:q.parts.length≤p.parts.length
 all:∀ k (h:k<q.parts.length),z9u (p.parts[k]'(Nat.lt_of_lt_of_le h le)) q.parts[k]=true
def zcj (l r m:Pat):Pat:=⟨r.parts++m.parts.drop l.parts.length,true⟩
structure zck (l r h m:Pat):Prop where
 nl:zcg l
 nr:zcg r
 rule:z9i l r=0
 hole:z7g h=0
 meet:za2 l h=some m
 mr:m.rest=true
 me:z7g m=0
 wi:WiOk m l
 len:r.parts.length+(m.parts.length - l.parts.length)≤12
theorem zcl {m:Pat}(h:z7g m=0)(n:Nat):∀ x∈m.parts.drop n,z7d x≠0:=fun x hx=>by
 obtain⟨k,hk,rfl⟩:=List.getElem_of_mem (List.mem_of_mem_drop hx);exact zce h hk
def NarPost (w:World)(l r m:Pat)(e:Ending)(w':World):Prop:=zB w w'∧∃ A' c' C' d',e=.returned (.tuple #[.agg #[.bool false,.slice A' m.parts.length c',.bool true,.slice C' (zcj l r m).parts.length d',.bool true],.bool true,.int .i64 0])∧z9j w' (.slice A' m.parts.length c') m∧z9j w' (.slice C' (zcj l r m).parts.length d') (zcj l r m)
theorem at_fn (m:Int)(B:Nat)(r:Rev)(w:World)(hB:w.cell? ⟨B,0,none⟩=some (.int .i64 m)):Calls prog 73 #[.agg #[.string r.path,.int .i64 r.num,.int .i64 r.chg,.int .i64 r.act,.int .i64 r.ty.base,.bool r.ty.k,.bool r.ty.l,.bool r.ty.x,.int .u64 r.sum,.int .i64 r.size,.string r.frm,.int .i64 r.fnum],.pointer (some ⟨B,0,none⟩)] w fun e w'=>e=.returned (.bool ((fun v:Rev=>decide (v.chg≤m)) r))∧zB w w':=by
 have hBl:=z03 hB;go_enter func73,ntmps73;go_wp2_with fail;go_ret;exact⟨z13 (rfl),(Below.refl _ _).alloc (Nat.le_refl _) _⟩
theorem zdw (revs:List Rev)(q:ByteArray)(m:Int)(B:Nat)(dv dr:Value)(w:World)(hR:z4c w dv revs)(hB:w.cell? ⟨B,0,none⟩=some (.int .i64 m))(hl:revs.length≤1000000):
  Calls prog 72 #[.agg #[dv,dr],.string q,.func (.func 73) #[] #[.pointer (some ⟨B,0,none⟩)]] w
   fun e w'=>e=.returned (.tuple #[.agg #[.string (zdv (z36 revs q (fun v:Rev=>decide (v.chg≤m)))).path,.int .i64 (zdv (z36 revs q (fun v:Rev=>decide (v.chg≤m)))).num,.int .i64 (zdv (z36 revs q (fun v:Rev=>decide (v.chg≤m)))).chg,.int .i64 (zdv (z36 revs q (fun v:Rev=>decide (v.chg≤m)))).act,.int .i64 (zdv (z36 revs q (fun v:Rev=>decide (v.chg≤m)))).ty.base,.bool (zdv (z36 revs q (fun v:Rev=>decide (v.chg≤m)))).ty.k,.bool (zdv (z36 revs q (fun v:Rev=>decide (v.chg≤m)))).ty.l,.bool (zdv (z36 revs q (fun v:Rev=>decide (v.chg≤m)))).ty.x,.int .u64 (zdv (z36 revs q (fun v:Rev=>decide (v.chg≤m)))).sum,.int .i64 (zdv (z36 revs q (fun v:Rev=>decide (v.chg≤m)))).size,.string (zdv (z36 revs q (fun v:Rev=>decide (v.chg≤m)))).frm,.int .i64 (zdv (z36 revs q (fun v:Rev=>decide (v.chg≤m)))).fnum],.bool (z36 revs q (fun v:Rev=>decide (v.chg≤m))).isSome])∧zB w w':=by
 obtain⟨Ar,cr,rfl,hcr,hmr,-⟩:=id hR;have HR:=hd_ hR;clear hR;unfold maxLen at hmr;rw[zdu];have HF:=hd_ (fun(r:Rev) (W:World) (hb:zB w W)=>at_fn m B r W (z04 hB hb (z03 hB)));have hb0:zB w (((w.alloc (.cells #[.slice Ar revs.length cr,dr] 27)).alloc (.cells #[.string ⟨#[]⟩,.int .i64 0,.int .i64 0,.int .i64 0,.int .i64 0,.bool false,.bool false,.bool false,.int .u64 0,.int .i64 0,.string ⟨#[]⟩,.int .i64 0] 90)).alloc (.cells #[.string ⟨#[]⟩,.int .i64 0,.int .i64 0,.int .i64 0,.int .i64 0,.bool false,.bool false,.bool false,.int .u64 0,.int .i64 0,.string ⟨#[]⟩,.int .i64 0] 90)):=(((Below.refl _ _).alloc (Nat.le_refl _) _).alloc (by simp) _).alloc (by simp;omega) _
 generalize (fun v:Rev=>decide (v.chg≤m))=p at HF ⊢;go_enter func72,ntmps72;go_wp2_with fail;go_loopw [9,15] (fun o i wr=>∃(k:Nat),k≤revs.length∧i=.int .i64 k∧zB w wr∧o=.bool ((revs.take k).foldl (zdt q p) none).isSome∧Blk wr (w.heap.size+1) 90 [.string ⟨#[]⟩,.int .i64 0,.int .i64 0,.int .i64 0,.int .i64 0,.bool false,.bool false,.bool false,.int .u64 0,.int .i64 0,.string ⟨#[]⟩,.int .i64 0]∧Blk wr (w.heap.size+1+1) 90 [.string (zdv ((revs.take k).foldl (zdt q p) none)).path,.int .i64 (zdv ((revs.take k).foldl (zdt q p) none)).num,.int .i64 (zdv ((revs.take k).foldl (zdt q p) none)).chg,.int .i64 (zdv ((revs.take k).foldl (zdt q p) none)).act,.int .i64 (zdv ((revs.take k).foldl (zdt q p) none)).ty.base,.bool (zdv ((revs.take k).foldl (zdt q p) none)).ty.k,.bool (zdv ((revs.take k).foldl (zdt q p) none)).ty.l,.bool (zdv ((revs.take k).foldl (zdt q p) none)).ty.x,.int .u64 (zdv ((revs.take k).foldl (zdt q p) none)).sum,.int .i64 (zdv ((revs.take k).foldl (zdt q p) none)).size,.string (zdv ((revs.take k).foldl (zdt q p) none)).frm,.int .i64 (zdv ((revs.take k).foldl (zdt q p) none)).fnum]) (fun _ i _=>revs.length - (intOf i).toNat)
 case atStart =>
  refine⟨0,Nat.zero_le _,rfl,hb0,rfl,?_,?_⟩
  ·have:=z0l (w.alloc (.cells #[.slice Ar revs.length cr,dr] 27)) [.string ⟨#[]⟩,.int .i64 0,.int .i64 0,.int .i64 0,.int .i64 0,.bool false,.bool false,.bool false,.int .u64 0,.int .i64 0,.string ⟨#[]⟩,.int .i64 0] 90;have:=this.alloc (.cells #[.string ⟨#[]⟩,.int .i64 0,.int .i64 0,.int .i64 0,.int .i64 0,.bool false,.bool false,.bool false,.int .u64 0,.int .i64 0,.string ⟨#[]⟩,.int .i64 0] 90);simpa using this
  ·have:=z0l ((w.alloc (.cells #[.slice Ar revs.length cr,dr] 27)).alloc (.cells #[.string ⟨#[]⟩,.int .i64 0,.int .i64 0,.int .i64 0,.int .i64 0,.bool false,.bool false,.bool false,.int .u64 0,.int .i64 0,.string ⟨#[]⟩,.int .i64 0] 90)) [.string ⟨#[]⟩,.int .i64 0,.int .i64 0,.int .i64 0,.int .i64 0,.bool false,.bool false,.bool false,.int .u64 0,.int .i64 0,.string ⟨#[]⟩,.int .i64 0] 90;simp only[World.size_alloc] at this
   exact this
 case round =>
  obtain⟨k,hk,rfl,hbr,rfl,hZ,hF⟩:=hrel;by_cases hlt:k<revs.length
  ·obtain⟨ad,rfl,hab,hld⟩:=z4c.at_ (HR.out.below hbr) hlt;have HT:=hd_ (show revs.take (k+1)=revs.take k++[revs[k]] from List.take_succ_eq_append_getElem hlt);have HG:Hid ((revs.take (k+1)).foldl (zdt q p) none=zdt q p ((revs.take k).foldl (zdt q p) none) revs[k]):=hd_ (by rw[HT.out,List.foldl_append];rfl)
   generalize revs[k]=r at hld HT HG;generalize (revs.take k).foldl (zdt q p) none=o at hF HG;obtain⟨x0,x1,x2,x3,x4,x5,x6,x7,x8,x9,x10,x11⟩:=hld;have hbx:=hbr.alloc hbr.size (.cells #[.string r.path,.int .i64 r.num,.int .i64 r.chg,.int .i64 r.act,.int .i64 r.ty.base,.bool r.ty.k,.bool r.ty.l,.bool r.ty.x,.int .u64 r.sum,.int .i64 r.size,.string r.frm,.int .i64 r.fnum] 90);have hZx:=hZ.alloc (.cells #[.string r.path,.int .i64 r.num,.int .i64 r.chg,.int .i64 r.act,.int .i64 r.ty.base,.bool r.ty.k,.bool r.ty.l,.bool r.ty.x,.int .u64 r.sum,.int .i64 r.size,.string r.frm,.int .i64 r.fnum] 90);have hFx:=hF.alloc (.cells #[.string r.path,.int .i64 r.num,.int .i64 r.chg,.int .i64 r.act,.int .i64 r.ty.base,.bool r.ty.k,.bool r.ty.l,.bool r.ty.x,.int .u64 r.sum,.int .i64 r.size,.string r.frm,.int .i64 r.fnum] 90);have hX:=z0l wr [.string r.path,.int .i64 r.num,.int .i64 r.chg,.int .i64 r.act,.int .i64 r.ty.base,.bool r.ty.k,.bool r.ty.l,.bool r.ty.x,.int .u64 r.sum,.int .i64 r.size,.string r.frm,.int .i64 r.fnum] 90;by_cases hp:r.path=q
   ·have HC:=hd_ (HF.out r (wr.alloc (.cells #[.string r.path,.int .i64 r.num,.int .i64 r.chg,.int .i64 r.act,.int .i64 r.ty.base,.bool r.ty.k,.bool r.ty.l,.bool r.ty.x,.int .u64 r.sum,.int .i64 r.size,.string r.frm,.int .i64 r.fnum] 90)) hbx);cases hpr:p r
    ·rw[hpr] at HC;have HS:Hid (zdt q p o r=o):=hd_ (by unfold zdt;rw[hpr];simp)
     clear hpr;subst hp;go_wp2_with fail;refine HC.out.mono ?_;rintro e w2 ⟨rfl,hb2⟩;go_wp2_with fail;go_roundw
     case rel=>exact⟨k+1,by omega,by go_num,z0r hbx hb2,by rw[HG.out,HS.out],hZx.below hb2 hZx.lt,by rw[HG.out,HS.out];exact hFx.below hb2 hFx.lt⟩
     case measure=>simp [intOf];omega
    ·rw[hpr] at HC;have hnew:∀ b:Bool,o.isSome=false∨(zdv o).num<r.num→zdt q p o r=some r:=by
      intro b h;unfold zdt;rw[if_pos ⟨hp,hpr⟩];cases o with
      | none=>rfl
      | some x =>
       rcases h with h | h
       ·cases h
       ·exact if_pos h
     have hold:o.isSome=true→¬(zdv o).num<r.num→zdt q p o r=o:=by
      intro h1 h2;unfold zdt;rw[if_pos ⟨hp,hpr⟩];cases o with
      | none=>cases h1
      | some x=>exact if_neg h2
     clear hpr;subst hp;by_cases hn:o.isSome=false∨(zdv o).num<r.num
     ·have HS:=hd_ (hnew true hn);clear hnew hold;cases hos:o.isSome
      ·clear hn;go_wp2_with fail;refine HC.out.mono ?_;rintro e w2 ⟨rfl,hb2⟩;have hX2:=hX.below hb2 hX.lt;have hF2:=hFx.below hb2 hFx.lt;have hZ2:=hZx.below hb2 hZx.lt;have hbw2:=z0r hbx hb2;obtain⟨c0,c1,c2,c3,c4,c5,c6,c7,c8,c9,c10,c11⟩:=z81 hX2;obtain⟨f0,f1,f2,f3,f4,f5,f6,f7,f8,f9,f10,f11⟩:=z81 hF2;obtain⟨y0,y1,y2,y3,y4,y5,y6,y7,y8,y9,y10,y11⟩:=zdi hF2;clear hb2;have hF3:=zdj hF2 r;have hB3:=zdk hbw2 (show w.heap.size≤w.heap.size+1+1 by omega) r
       have hZ3:=far12 hZ2 (show w.heap.size+1+1≠w.heap.size+1 by omega) r
       go_wp2_with fail;go_roundw
       case rel=>exact⟨k+1,by omega,by go_num,hB3,by rw[HG.out,HS.out];rfl,hZ3,by rw[HG.out,HS.out];exact hF3⟩
       case measure=>simp [intOf];omega
      ·have hn2:(zdv o).num<r.num:=by rcases hn with h | h;(rw[hos] at h;cases h);exact h
       clear hn;go_wp2_with fail;refine HC.out.mono ?_;rintro e w2 ⟨rfl,hb2⟩;have hX2:=hX.below hb2 hX.lt;have hF2:=hFx.below hb2 hFx.lt;have hZ2:=hZx.below hb2 hZx.lt;have hbw2:=z0r hbx hb2;obtain⟨c0,c1,c2,c3,c4,c5,c6,c7,c8,c9,c10,c11⟩:=z81 hX2;obtain⟨f0,f1,f2,f3,f4,f5,f6,f7,f8,f9,f10,f11⟩:=z81 hF2;obtain⟨y0,y1,y2,y3,y4,y5,y6,y7,y8,y9,y10,y11⟩:=zdi hF2;clear hb2;have hF3:=zdj hF2 r;have hB3:=zdk hbw2 (show w.heap.size≤w.heap.size+1+1 by omega) r
       have hZ3:=far12 hZ2 (show w.heap.size+1+1≠w.heap.size+1 by omega) r
       go_wp2_with fail;go_roundw
       case rel=>exact⟨k+1,by omega,by go_num,hB3,by rw[HG.out,HS.out];rfl,hZ3,by rw[HG.out,HS.out];exact hF3⟩
       case measure=>simp [intOf];omega
     ·rw[not_or] at hn;have hos:o.isSome=true:=by
       cases h:o.isSome
       ·exact absurd h hn.1
       ·rfl
      have hn2:¬(zdv o).num<r.num:=hn.2;have HS:=hd_ (hold hos hn2);clear hnew hold hn;go_wp2_with fail;refine HC.out.mono ?_;rintro e w2 ⟨rfl,hb2⟩;have hX2:=hX.below hb2 hX.lt;have hF2:=hFx.below hb2 hFx.lt;have hZ2:=hZx.below hb2 hZx.lt;have hbw2:=z0r hbx hb2;obtain⟨c0,c1,c2,c3,c4,c5,c6,c7,c8,c9,c10,c11⟩:=z81 hX2;obtain⟨f0,f1,f2,f3,f4,f5,f6,f7,f8,f9,f10,f11⟩:=z81 hF2;clear hb2;go_wp2_with fail;go_roundw
      case rel=>exact⟨k+1,by omega,by go_num,hbw2,by rw[HG.out,HS.out,hos],hZ2,by rw[HG.out,HS.out];exact hF2⟩
      case measure=>simp [intOf];omega
   ·have HS:Hid (zdt q p o r=o):=hd_ (by unfold zdt;rw[if_neg (fun h=>hp h.1)])
    have sq:=zdq r.path q;rw[show decide (r.path=q)=false by simpa using hp] at sq
    clear hp;go_wp2_with fail;go_roundw
    case rel=>exact⟨k+1,by omega,by go_num,hbx,by rw[HG.out,HS.out],hZx,by rw[HG.out,HS.out];exact hFx⟩
    case measure=>simp [intOf];omega
  ·rw[List.take_of_length_le (by omega)] at hF ⊢
   obtain⟨o,ho⟩:∃ o,revs.foldl (zdt q p) none=o:=⟨_,rfl⟩;rw[ho] at hF ⊢;obtain⟨r,hr⟩:∃ r,zdv o=r:=⟨_,rfl⟩;rw[hr] at hF;have HO:=hd_ ho;have HR2:=hd_ hr;clear ho hr;obtain⟨f0,f1,f2,f3,f4,f5,f6,f7,f8,f9,f10,f11⟩:=z81 hF;obtain⟨z0,z1,z2,z3,z4,z5,z6,z7,z8,z9,z10,z11⟩:=z81 hZ;obtain⟨y0,y1,y2,y3,y4,y5,y6,y7,y8,y9,y10,y11⟩:=zdi hZ;go_wp2_with fail;have hZ3:=zdj hZ r;have hB3:=zdk hbr (show w.heap.size≤w.heap.size+1 by omega) r
   generalize ((((((((((((wr.setCell ⟨w.heap.size+1,0,none⟩ (.string r.path)).setCell ⟨w.heap.size+1,1,none⟩ (.int .i64 r.num)).setCell ⟨w.heap.size+1,2,none⟩ (.int .i64 r.chg)).setCell ⟨w.heap.size+1,3,none⟩ (.int .i64 r.act)).setCell ⟨w.heap.size+1,4,none⟩ (.int .i64 r.ty.base)).setCell ⟨w.heap.size+1,5,none⟩ (.bool r.ty.k)).setCell ⟨w.heap.size+1,6,none⟩ (.bool r.ty.l)).setCell ⟨w.heap.size+1,7,none⟩ (.bool r.ty.x)).setCell ⟨w.heap.size+1,8,none⟩ (.int .u64 r.sum)).setCell ⟨w.heap.size+1,9,none⟩ (.int .i64 r.size)).setCell ⟨w.heap.size+1,10,none⟩ (.string r.frm)).setCell ⟨w.heap.size+1,11,none⟩ (.int .i64 r.fnum))=W3 at hZ3 hB3 ⊢;obtain⟨e0,e1,e2,e3,e4,e5,e6,e7,e8,e9,e10,e11⟩:=z81 hZ3;exact bodyPost_ret (v:=.tuple #[.agg #[.string r.path,.int .i64 r.num,.int .i64 r.chg,.int .i64 r.act,.int .i64 r.ty.base,.bool r.ty.k,.bool r.ty.l,.bool r.ty.x,.int .u64 r.sum,.int .i64 r.size,.string r.frm,.int .i64 r.fnum],.bool o.isSome]) (by simp [results,results72,go_sem,e0,e1,e2,e3,e4,e5,e6,e7,e8,e9,e10,e11]) rfl ⟨by rw[HO.out,HR2.out],hB3⟩
theorem at_any (revs:List Rev)(q:ByteArray)(m:Int)(dv dr:Value)(w:World)(hR:z4c w dv revs)(hl:revs.length≤1000000):
  Calls prog 35 #[.agg #[dv,dr],.string q,.int .i64 m] w
   fun e w'=>e=.returned (.tuple #[.agg #[.string (zdv (z36 revs q (fun v:Rev=>decide (v.chg≤m)))).path,.int .i64 (zdv (z36 revs q (fun v:Rev=>decide (v.chg≤m)))).num,.int .i64 (zdv (z36 revs q (fun v:Rev=>decide (v.chg≤m)))).chg,.int .i64 (zdv (z36 revs q (fun v:Rev=>decide (v.chg≤m)))).act,.int .i64 (zdv (z36 revs q (fun v:Rev=>decide (v.chg≤m)))).ty.base,.bool (zdv (z36 revs q (fun v:Rev=>decide (v.chg≤m)))).ty.k,.bool (zdv (z36 revs q (fun v:Rev=>decide (v.chg≤m)))).ty.l,.bool (zdv (z36 revs q (fun v:Rev=>decide (v.chg≤m)))).ty.x,.int .u64 (zdv (z36 revs q (fun v:Rev=>decide (v.chg≤m)))).sum,.int .i64 (zdv (z36 revs q (fun v:Rev=>decide (v.chg≤m)))).size,.string (zdv (z36 revs q (fun v:Rev=>decide (v.chg≤m)))).frm,.int .i64 (zdv (z36 revs q (fun v:Rev=>decide (v.chg≤m)))).fnum],.bool (z36 revs q (fun v:Rev=>decide (v.chg≤m))).isSome])∧zB w w':=by
 have HR:=hd_ hR;obtain⟨Ar,cr,rfl,-⟩:=hR;obtain⟨dv,hdv⟩:∃ v,Value.slice Ar revs.length cr=v:=⟨_,rfl⟩;have hb0:zB w (((w.alloc (.cells #[(.slice Ar revs.length cr),dr] 27)).alloc (.cells #[.int .i64 m] 3)).alloc (.cells #[.string ⟨#[]⟩,.int .i64 0,.int .i64 0,.int .i64 0,.int .i64 0,.bool false,.bool false,.bool false,.int .u64 0,.int .i64 0,.string ⟨#[]⟩,.int .i64 0] 90)):=((((Below.refl _ _).alloc (Nat.le_refl _) _).alloc (by simp) _).alloc (by simp;omega) _)
 have hZ:Blk (((w.alloc (.cells #[(.slice Ar revs.length cr),dr] 27)).alloc (.cells #[.int .i64 m] 3)).alloc (.cells #[.string ⟨#[]⟩,.int .i64 0,.int .i64 0,.int .i64 0,.int .i64 0,.bool false,.bool false,.bool false,.int .u64 0,.int .i64 0,.string ⟨#[]⟩,.int .i64 0] 90)) (w.heap.size+1+1) 90 [.string ⟨#[]⟩,.int .i64 0,.int .i64 0,.int .i64 0,.int .i64 0,.bool false,.bool false,.bool false,.int .u64 0,.int .i64 0,.string ⟨#[]⟩,.int .i64 0]:=by
  have h1:=z0l ((w.alloc (.cells #[(.slice Ar revs.length cr),dr] 27)).alloc (.cells #[.int .i64 m] 3)) [.string ⟨#[]⟩,.int .i64 0,.int .i64 0,.int .i64 0,.int .i64 0,.bool false,.bool false,.bool false,.int .u64 0,.int .i64 0,.string ⟨#[]⟩,.int .i64 0] 90;simp only[World.size_alloc] at h1
  exact h1
 have hcell:(((w.alloc (.cells #[(.slice Ar revs.length cr),dr] 27)).alloc (.cells #[.int .i64 m] 3)).alloc (.cells #[.string ⟨#[]⟩,.int .i64 0,.int .i64 0,.int .i64 0,.int .i64 0,.bool false,.bool false,.bool false,.int .u64 0,.int .i64 0,.string ⟨#[]⟩,.int .i64 0] 90)).cell? ⟨w.heap.size+1,0,none⟩=some (.int .i64 m):=by
  have h1:=(z0l (w.alloc (.cells #[(.slice Ar revs.length cr),dr] 27)) [.int .i64 m] 3).alloc (.cells #[.string ⟨#[]⟩,.int .i64 0,.int .i64 0,.int .i64 0,.int .i64 0,.bool false,.bool false,.bool false,.int .u64 0,.int .i64 0,.string ⟨#[]⟩,.int .i64 0] 90);simp only[World.size_alloc] at h1
  exact h1.cell 0
 have HC:=hd_ (zdw revs q m (w.heap.size+1) (.slice Ar revs.length cr) dr _ (HR.out.below hb0) hcell hl);clear hdv dv hcell;generalize z36 revs q (fun v:Rev=>decide (v.chg≤m))=o at HC ⊢;generalize zdv o=r at HC ⊢;go_enter func35,ntmps35;go_wp2_with fail;refine HC.out.mono ?_;rintro e w1 ⟨rfl,hb1⟩;have hZ1:=hZ.below hb1 hZ.lt;have hbw1:=z0r hb0 hb1;obtain⟨z0,z1,z2,z3,z4,z5,z6,z7,z8,z9,z10,z11⟩:=z81 hZ1;obtain⟨y0,y1,y2,y3,y4,y5,y6,y7,y8,y9,y10,y11⟩:=zdi hZ1;clear hb1;go_wp2_with fail;have hZ3:=zdj hZ1 r;have hB3:=zdk hbw1 (show w.heap.size≤w.heap.size+1+1 by omega) r
 generalize ((((((((((((w1.setCell ⟨w.heap.size+1+1,0,none⟩ (.string r.path)).setCell ⟨w.heap.size+1+1,1,none⟩ (.int .i64 r.num)).setCell ⟨w.heap.size+1+1,2,none⟩ (.int .i64 r.chg)).setCell ⟨w.heap.size+1+1,3,none⟩ (.int .i64 r.act)).setCell ⟨w.heap.size+1+1,4,none⟩ (.int .i64 r.ty.base)).setCell ⟨w.heap.size+1+1,5,none⟩ (.bool r.ty.k)).setCell ⟨w.heap.size+1+1,6,none⟩ (.bool r.ty.l)).setCell ⟨w.heap.size+1+1,7,none⟩ (.bool r.ty.x)).setCell ⟨w.heap.size+1+1,8,none⟩ (.int .u64 r.sum)).setCell ⟨w.heap.size+1+1,9,none⟩ (.int .i64 r.size)).setCell ⟨w.heap.size+1+1,10,none⟩ (.string r.frm)).setCell ⟨w.heap.size+1+1,11,none⟩ (.int .i64 r.fnum))=W3 at hZ3 hB3 ⊢;obtain⟨e0,e1,e2,e3,e4,e5,e6,e7,e8,e9,e10,e11⟩:=z81 hZ3;exact bodyPost_ret (v:=.tuple #[.agg #[.string r.path,.int .i64 r.num,.int .i64 r.chg,.int .i64 r.act,.int .i64 r.ty.base,.bool r.ty.k,.bool r.ty.l,.bool r.ty.x,.int .u64 r.sum,.int .i64 r.size,.string r.frm,.int .i64 r.fnum],.bool o.isSome]) (by simp [results,results35,go_sem,e0,e1,e2,e3,e4,e5,e6,e7,e8,e9,e10,e11]) rfl ⟨rfl,hB3⟩
def Under (n k:Int):Prop:=0≤k∧(1<n→k<n)∧(n≤1→k=0)
theorem zfy (x n:Int)(h:1<n):-n<x.tmod n∧x.tmod n<n:=by
 have h1:=Int.tmod_lt_of_pos x (b:=n) (by omega)
 have h2:=Int.lt_tmod_of_pos x (b:=n) (by omega)
 exact⟨by omega,h1⟩
theorem zfz (v n:Int)(w:World)(hn:n≤1000000000):Calls prog 52 #[.int .i64 v,.int .i64 n] w fun e w'=>∃ k,e=.returned (.int .i64 k)∧Under n k∧w=w':=by
 by_cases h1:n≤1
 ·have q:decide (n≤1)=true:=decide_eq_true h1;go_enter func52,ntmps52;go_wp2_with fail;go_ret;exact⟨0,rfl,⟨by omega,fun h=>by omega,fun _=>rfl⟩,rfl⟩
 ·have q:decide (n≤1)=false:=decide_eq_false h1;have q0:(n == 0)=false:=by rw[beq_eq_false_iff_ne];omega
  have q1:(n == -1)=false:=by rw[beq_eq_false_iff_ne];omega
  obtain⟨a1,a2⟩:=zfy v n (by omega)
  obtain⟨r,hr⟩:∃ r,v.tmod n=r:=⟨_,rfl⟩;rw[hr] at a1 a2;have hw:IntKind.i64.wrap r=r:=by rw[IntKind.wrap_i64];omega
  by_cases h2:r<0
  ·have q2:decide (r<0)=true:=decide_eq_true h2;have hw2:IntKind.i64.wrap (r+n)=r+n:=by rw[IntKind.wrap_i64];omega
   go_enter func52,ntmps52;go_wp2_with fail;go_ret;exact⟨_,rfl,⟨by omega,fun _=>by omega,fun h=>by omega⟩,rfl⟩
  ·have q2:decide (r<0)=false:=decide_eq_false h2;go_enter func52,ntmps52;go_wp2_with fail;go_ret;exact⟨_,rfl,⟨by omega,fun _=>by omega,fun h=>by omega⟩,rfl⟩
