/- A part of the proof. -/
import Derived.Test.YtegeboijhifmcaaGreatDoorMgs20
import Derived.Test.YtegeboijhifmcaaGreatDoorMsAlR
set_option linter.unusedVariables false
set_option linter.unusedSimpArgs false
set_option maxHeartbeats 8000000
set_option maxRecDepth 100000
namespace Go.Proofs.YtegeboijhifmcaaGreatDoor
open Go.Proofs.Tryz
open Go.RowKit
open Go.Sort (grow)
def addP (l:List ByteArray)(p:ByteArray):List ByteArray:=if p∈l then l else l++[p]
def zb1 (D:List Rev):List ByteArray:=D.foldl (fun l r=>addP l r.path) []
theorem zb2 (D:List Rev)(k:Nat)(hk:k<D.length):zb1 (D.take (k+1))=addP (zb1 (D.take k)) D[k].path:=by
 unfold zb1;rw[List.take_succ_eq_append_getElem hk,List.foldl_append];rfl
theorem zb3 {l:List ByteArray}{p q:ByteArray}:q∈addP l p↔q∈l∨q=p:=by
 unfold addP;split
 ·rename_i h
  exact⟨.inl,fun h2=>h2.elim id fun e=>e ▸ h⟩
 ·simp
theorem zb4 (D:List Rev){q:ByteArray}:q∈zb1 D↔∃ r∈D,r.path=q:=by
 suffices h:∀(D:List Rev) (l:List ByteArray),q∈D.foldl (fun l r=>addP l r.path) l↔q∈l∨∃ r∈D,r.path=q by
  unfold zb1;rw[h];simp
 intro D;induction D with
 | nil=>intro l;simp
 | cons r D ih =>
  intro l;rw[List.foldl_cons,ih,zb3];constructor
  ·rintro ((h | h) | ⟨x,hx,h⟩)
   ·exact .inl h
   ·exact .inr ⟨r,List.mem_cons_self ..,h.symm⟩
   ·exact .inr ⟨x,List.mem_cons_of_mem _ hx,h⟩
  ·rintro (h | ⟨x,hx,h⟩)
   ·exact .inl (.inl h)
   ·rcases List.mem_cons.1 hx with rfl | hx
    ·exact .inl (.inr h.symm)
    ·exact .inr ⟨x,hx,h⟩
theorem zb5 (D:List Rev):(zb1 D).Nodup:=by
 suffices h:∀(D:List Rev) (l:List ByteArray),l.Nodup→(D.foldl (fun l r=>addP l r.path) l).Nodup from h D [] List.nodup_nil
 intro D;induction D with
 | nil=>intro l hl;exact hl
 | cons r D ih =>
  intro l hl;rw[List.foldl_cons];refine ih _ ?_;unfold addP;split
  ·exact hl
  ·rename_i h
   exact List.nodup_append.2 ⟨hl,by simp,fun a ha b hb=>by rw[List.mem_singleton] at hb;subst hb;exact fun e=>h (by rw[← e];exact ha)⟩
theorem zb6 {α:Type}[DecidableEq α]:∀ {l B:List α},l.Nodup→(∀ x∈l,x∈B)→l.length≤B.length
 | [],B,_,_=>Nat.zero_le _
 | a :: l,B,hn,hs=>by
  have h1:=List.nodup_cons.1 hn;have ha:=hs a (List.mem_cons_self ..);have:=zb6 (B:=B.erase a) h1.2 fun x hx=>(List.mem_erase_of_ne (fun e=>h1.1 (by rw[← e];exact hx))).2 (hs x (List.mem_cons_of_mem _ hx))
  rw[List.length_erase_of_mem ha] at this;have hp:=List.length_pos_of_mem ha;rw[List.length_cons];omega
theorem zb7 {D:List Rev}{B:List ByteArray}(h:∀ r∈D,r.path∈B):(zb1 D).length≤B.length:=zb6 (zb5 D) fun q hq=>by
 obtain⟨r,hr,rfl⟩:=(zb4 D).1 hq;exact h r hr
theorem zb8 {l l':List ByteArray}(hp:l'.Perm l)(hs:l'.Pairwise (fun a b=>¬ z2u b a<0))(hn:l.Nodup)(hv:∀ x∈l,z2s x=true):z5x (fun q:ByteArray=>q) l':=by
 have hn':l'.Pairwise (·≠·):=(hp.nodup_iff).2 hn;have hv':∀ x∈l',z2s x=true:=fun x hx=>hv x (hp.mem_iff.1 hx);have h2:=List.pairwise_and_iff.2 ⟨hs,hn'⟩;unfold z5x;refine (List.Pairwise.imp_of_mem ?_ h2);intro a b ha hb ⟨h3,h4⟩
 rw[z5q] at h3;have h5:z2u a b≠0:=fun e=>h4 (z5r (hv' a ha) (hv' b hb) e);show z2u a b<0
 omega
structure zb9 (w wr:World)(v:Value)(l:List ByteArray):Prop where
 low:Below w.heap.size w wr
 map:z2f Value.string z4i wr (w.heap.size+1) (z4h l)
 own:wr.ownsRow (w.heap.size+1+1) 9 1 v l.length (l.map .string)
theorem zb9.under {w wr wx:World}{v:Value}{l:List ByteArray}(h:zb9 w wr v l)(hb:Below wr.heap.size wr wx):zb9 w wx v l:=⟨z0r h.low hb,h.map.below hb,z0n h.own hb⟩
theorem zb9.upd {w wr w3:World}{v:Value}{l:List ByteArray}{f:ByteArray→Option Unit}(h:zb9 w wr v l)(hM:z2f Value.string z4i w3 (w.heap.size+1) f)(hg:wr.grownBy w3 (some (w.heap.size+1))):
  Below w.heap.size w w3∧w3.ownsRow (w.heap.size+1+1) 9 1 v l.length (l.map .string):=
 ⟨h.low.grown hg h.low.size (fun k e=>by injection e with e;omega),z4q h.own hg (fun x e e2=>by injection e2 with e2;have:=(h.own.lt x e).1;omega)⟩
theorem zba (p:ByteArray)(l:List ByteArray):z4h (l++[p])=upd (z4h l) p ():=by
 rw[← z4j];funext x
 unfold z4h;by_cases h:x∈l++[p]
 ·rw[if_pos h,if_pos (by simp at h ⊢;exact h.symm)]
 ·rw[if_neg h,if_neg (by simp at h ⊢;exact⟨h.2,h.1⟩)]
theorem zbb (D:List Rev)(B:List ByteArray)(dv dr:Value)(w:World)(hR:z45 w dv D)(hl:D.length≤1000000)(hB:∀ r∈D,r.path∈B)(hB12:B.length≤12)(hBv:∀ x∈B,z2s x=true∧x.size≤1000000):
  Calls prog 41 #[.agg #[dv,dr]] w fun e w'=>∃ v l,e=.returned v∧Below w.heap.size w w'∧Strs w' v l∧z5x (fun q:ByteArray=>q) l∧∀ q,q∈l↔∃ r∈D,r.path=q:=by
 obtain⟨Ar,cr,rfl,-⟩:=id hR;have hBox:=z0l w [.slice Ar D.length cr,dr] 26;have hA:Below w.heap.size w (w.alloc (.cells #[.slice Ar D.length cr,dr] 26)):=(Below.refl _ _).alloc (Nat.le_refl _) _;have hs1:(w.alloc (.cells #[.slice Ar D.length cr,dr] 26)).heap.size=w.heap.size+1:=by simp
 have hmm:=@run_makeMap prog;have HR:=hd_ hR;have HB:=hd_ hB;have HBV:=hd_ hBv;have HLL:Hid (∀ k,(zb1 (D.take k)).length≤12):=hd_ (fun k=>Nat.le_trans (zb7 (B:=B) fun r hr=>hB r (List.mem_of_mem_take hr)) hB12);have HTK:=hd_ (zb2 D);clear hR hB hBv hB12;go_enter func41,ntmps41;go_upto_region 1 with fail;generalize w.alloc (.cells #[.slice Ar D.length cr,dr] 26)=W1 at hBox hA hs1 ⊢;have HS0:Hid (zb9 w (W1.alloc (.map #[] 0)) (.slice none 0 0) []):=hd_ (by
  refine⟨hA.alloc hA.size _,?_,World.ownsRow_nil _ _ _ _⟩;have:=z2f.new Value.string z4i W1;rw[hs1] at this;exact this)
 have d0:(W1.alloc (.map #[] 0)).cell? ⟨w.heap.size,0,none⟩=some (.slice Ar D.length cr):=(hBox.alloc _).cell 0;have HS1:=hd_ hs1;clear hBox hA hs1;go_upto_region 3 with fail;rw[HS1.out];generalize W1.alloc (.map #[] 0)=W2 at HS0 d0 ⊢;clear hmm;go_wp2_with fail;go_loopw [4,13] (fun lv i wr=>∃(k n:Nat) (A:Option Addr) (c:Nat),lv=.slice A n c∧i=.int .i64 k∧k≤D.length∧Hid (n=(zb1 (D.take k)).length∧zb9 w wr (.slice A n c) (zb1 (D.take k)))) (fun _ i _=>D.length - (intOf i).toNat)
 case atStart=>exact⟨0,0,none,0,rfl,rfl,Nat.zero_le _,hd_ ⟨rfl,HS0.out⟩⟩
 case round =>
  obtain⟨k,n,A,c,rfl,rfl,hk,HI⟩:=hrel;clear d0;by_cases hlt:k<D.length
  ·obtain⟨ad,rfl,hab,hld⟩:=z45.at_ (HR.out.below HI.out.2.low) hlt;have HT:=hd_ (HTK.out k hlt);have hbv:=HBV.out _ (HB.out D[k] (List.getElem_mem hlt));have HL1:=hd_ (HLL.out (k+1));have HL0:=hd_ (HLL.out k);generalize D[k]=r at hld HT hbv;obtain⟨x0,x1,x2,x3,x4,x5,x6,x7,x8,x9,x10,x11⟩:=hld;have hX:=z0l wr [.string r.path,.int .i64 r.num,.int .i64 r.chg,.int .i64 r.act,.int .i64 r.ty.base,.bool r.ty.k,.bool r.ty.l,.bool r.ty.x,.int .u64 r.sum,.int .i64 r.size,.string r.frm,.int .i64 r.fnum] 66;have HX:Hid (zb9 w (wr.alloc (.cells #[.string r.path,.int .i64 r.num,.int .i64 r.chg,.int .i64 r.act,.int .i64 r.ty.base,.bool r.ty.k,.bool r.ty.l,.bool r.ty.x,.int .u64 r.sum,.int .i64 r.size,.string r.frm,.int .i64 r.fnum] 66)) (.slice A n c) (zb1 (D.take k))):=hd_ (HI.out.2.under ((Below.refl _ _).alloc (Nat.le_refl _) _));go_upto_region 6 with fail;clear x0 x1 x2 x3 x4 x5 x6 x7 x8 x9 x10 x11 hab;have hg6:w.heap.size+1<wr.heap.size:=HI.out.2.map.lt;generalize wr.alloc (.cells #[.string r.path,.int .i64 r.num,.int .i64 r.chg,.int .i64 r.act,.int .i64 r.ty.base,.bool r.ty.k,.bool r.ty.l,.bool r.ty.x,.int .u64 r.sum,.int .i64 r.size,.string r.frm,.int .i64 r.fnum] 66)=W6 at hX HX ⊢;generalize wr.heap.size=g6 at hX hg6 ⊢;have y0:W6.cell? ⟨g6,0,none⟩=some (.string r.path):=hX.cell 0;have HX6:=hd_ hX;have HN0:=hd_ HI.out.1;clear hX;generalize hll:zb1 (D.take k)=l at HX HT HL0 HN0;obtain⟨p,hpe⟩:∃ p,r.path=p:=⟨_,rfl⟩;rw[hpe] at y0 HT hbv;have HPE:=hd_ hpe;clear hpe;have HLK:=hd_ hlt;have hlk:=z2f.lookup (w:=W6) HX.out.map (z2d underlying9) underlying80 (z:=.agg #[]) (by rfl) p true
   clear hll HI;by_cases hin:p∈l
   ·have hv:z2h z4i (.agg #[]) true (z4h l p)=.tuple #[.agg #[],.bool true]:=by unfold z4h;rw[if_pos hin];rfl
    rw[hv] at hlk;have HT2:Hid (zb1 (D.take (k+1))=l):=hd_ (by rw[HT.out];exact if_pos hin)
    clear hin hv;go_wp2_with fail;go_roundw
    case rel=>exact⟨k+1,n,A,c,rfl,by go_num,by omega,hd_ ⟨by rw[HT2.out];exact HN0.out,by rw[HT2.out];exact HX.out.under ((Below.refl _ _).alloc (Nat.le_refl _) _)⟩⟩
    case measure=>simp [intOf];omega
   ·have hv:z2h z4i (.agg #[]) true (z4h l p)=.tuple #[.agg #[],.bool false]:=by unfold z4h;rw[if_neg hin];rfl
    rw[hv] at hlk;have HT2:Hid (zb1 (D.take (k+1))=l++[p]):=hd_ (by rw[HT.out];exact if_neg hin)
    have HVA:=hd_ (fun X=>zb0 p true hbv.1 X (by have:=hbv.2;omega))
    clear hin hv;have HX7:=hd_ (HX.out.under ((Below.refl W6.heap.size W6).alloc (Nat.le_refl _) (.cells #[] 106)));have hX7:=HX6.out.alloc (.cells #[] 106);have y7:(W6.alloc (.cells #[] 106)).cell? ⟨g6,0,none⟩=some (.string p):=by rw[← HPE.out];exact hX7.cell 0
    obtain⟨w3,hup,hM3,hg3,-⟩:=z2f.update (w:=W6.alloc (.cells #[] 106)) HX7.out.map (z2d underlying9) underlying80 p ();have hup':(Instr.mapUpdate 80 (.map (some (w.heap.size+1))) (.string p) (.agg #[])).run prog (W6.alloc (.cells #[] 106))=.ok () w3:=hup;have y3:w3.cell? ⟨g6,0,none⟩=some (.string p):=by rw[← HPE.out];exact (hX7.grown hg3 (fun e=>by injection e with e;omega)).cell 0
    obtain⟨hlo,how⟩:=HX7.out.upd hM3 hg3;have hba:Below w3.heap.size w3 (w3.alloc (.cells #[.string p] 9)):=(Below.refl _ _).alloc (Nat.le_refl _) _;have hlo4:=z0r hlo hba;have how4:=z0n how hba;have hM4:=hM3.below hba;have hrow:=z0i w3 [.string p] 9 1 1 rfl (by decide) _ rfl
    have hsz:w.heap.size+1+1≤(w3.alloc (.cells #[.string p] 9)).heap.size:=by have:=hM4.lt;omega
    have HN1:=hd_ HN0.out;have hn12:n≤12:=by have h1:=HN0.out;have h2:=HL0.out;omega
    have hown:(w3.alloc (.cells #[.string p] 9)).ownsRow (w.heap.size+1+1) 9 1 (.slice A n c) n (l.map .string):=by rw[HN0.out] at how4 ⊢;exact how4
    have HLO:=hd_ hlo4;have HMA:=hd_ hM4;have HOW:=hd_ hown;clear hup hX7 hlo how hba hlo4 how4 hM4 hown hM3;go_wp2_with (first
     | (go_at_call 67;refine (HVA.out _).mono ?_;rintro e w' ⟨rfl,rfl⟩)
     | (at_builtin;refine z0j rfl rfl z87 HOW.out rfl hrow rfl (by simp [Value.oneCell']) (by omega) (by unfold maxLen;omega) hsz ?_;intro A' c' w9 hown hgr hob))
    have HP:Hid (zb9 w w9 (.slice A' (n+1) c') (l++[p])):=hd_ (by
     refine⟨HLO.out.grown hgr HLO.out.size (fun k e=>by have:=(HOW.out.lt k e).1;omega),?_,?_⟩
     ·rw[zba];exact HMA.out.grown hgr (fun e=>by have:=(HOW.out.lt _ e.symm).1;omega)
     ·rw[List.length_append,List.length_singleton,← HN1.out,List.map_append];exact hown)
    clear hown hgr hob;go_wp2_with fail;go_roundw
    case rel=>exact⟨k+1,n+1,A',c',rfl,by go_num,by omega,hd_ ⟨by rw[HT2.out,List.length_append,← HN1.out];rfl,by rw[HT2.out];exact HP.out⟩⟩
    case measure=>simp [intOf];omega
  ·have hke:k=D.length:=by omega
   subst hke;rw[List.take_length] at HI;have hge:¬((D.length:Int)<(D.length:Int)):=by omega
   have HLD:=hd_ (HLL.out D.length);rw[List.take_length] at HLD;have HSO:=hd_ (zax (zb1 D) (.slice A n c) (w.heap.size+1+1) wr HI.out.2.own HLD.out (fun x hx=>by
    obtain⟨r,hr,rfl⟩:=(zb4 D).1 hx;exact HBV.out _ (HB.out r hr)))
   go_wp2_with fail;refine HSO.out.mono ?_;rintro e w9 ⟨rfl,h9⟩;have H9:=hd_ h9;clear h9;go_wp2_with fail;go_ret;obtain⟨l',hp,hs,hr,hg⟩:=H9.out;refine⟨_,l',rfl,HI.out.2.low.grown hg HI.out.2.low.size (fun k e=>by have:=(HI.out.2.own.lt k e).1;omega),?_,zb8 hp hs (zb5 D) (fun x hx=>by
    obtain⟨r,hr,rfl⟩:=(zb4 D).1 hx;exact (HBV.out _ (HB.out r hr)).1),fun q=>by rw[hp.mem_iff];exact zb4 D⟩
   show Row w9 1 _ l'.length _
   rw[hp.length_eq];exact hr
theorem zj7 (r:List Syn)(k:Nat)(hk:k<r.length):(r.take (k+1)).flatMap z4t=(r.take k).flatMap z4t++z4t r[k]:=by
 rw[List.take_succ_eq_append_getElem hk,z56]
theorem zj8 (x:Syn):(z4s x).length≤1:=by unfold z4s;split <;> simp
theorem zj9 (x:Syn):(z4t x).length≤1:=by unfold z4t;split;simp;exact zj8 x
theorem zja (l:List Syn):(l.flatMap z4t).length≤l.length:=by
 induction l with
 | nil=>simp
 | cons x l ih=>rw[List.flatMap_cons,List.length_append,List.length_cons];have:=zj9 x;omega
theorem room40 {n:Nat}(h:n≤1000000):n * 40≤140737488355328:=Nat.le_trans (Nat.mul_le_mul_right 40 h) (by decide)
theorem zjb (O:List Hav)(r:List Syn)(hl:O.length+r.length+1≤1000000)(k:Nat):((O++(r.take k).flatMap z4t).length+1) * 40≤140737488355328:=by
 have:=zja (r.take k);rw[List.length_take] at this;have h2:(O++(r.take k).flatMap z4t).length=O.length+((r.take k).flatMap z4t).length:=List.length_append;exact room40 (by omega)
theorem rsT17 (T:Code)(hT:Tryz.f39.body.bind (zhv 17)=some T)(R:Ending→World→Prop)(w0 w:World)(O:List Hav)(r:List Syn)(v:Value)(A1:Option Addr)(c1:Nat)
  (hA:Aft w0 w w0.heap.size O v) (hS:z4z w0 (.slice A1 r.length c1) r) (hl:O.length+r.length+1≤1000000)
  (hRR:∀ v' X,Aft w0 X w0.heap.size (O++r.flatMap z4t) v'→R (.returned v') X)
  (u0 u2 u3 u4 u7 u8 u9 gn gt gu gx gy gz gA gC gD gE gF gG gH gI gJ gK gL gM gN gO gP gQ gR gT gV gW gX gY gZ i6 i7 i8 ia ib ic ie ig ii ij ik il im io ip iq ir iu iv iw ix iy iz iA iB iC iD iE iF iG iH iI iJ iK iL iM iN iO iP iQ iR iS iT iU iV iW iX iY iZ j0:Value):
  T.wp prog (bodyPost prog Tryz.f39 R) ⟨#[u0,.slice A1 r.length c1,u2,u3,u4,.pointer (some ⟨w0.heap.size,0,none⟩),.func (.func 63) #[] #[.pointer (some ⟨w0.heap.size,0,none⟩)],u7,u8,u9,gn,gt,gu,gx,gy,gz,gA,gC,gD,gE,gF,gG,gH,gI,gJ,gK,gL,gM,gN,gO,gP,gQ,gR,gT,gV,gW,gX,gY,gZ,i6,i7,i8,ia,ib,ic,ie,ig,ii,ij,ik,il,im,io,ip,iq,ir,iu,iv,iw,ix,iy,iz,iA,iB,iC,iD,iE,iF,iG,iH,iI,iJ,iK,iL,iM,iN,iO,iP,iQ,iR,iS,iT,iU,iV,iW,iX,iY,iZ,j0],[]⟩ w:=by
 simp only[Tryz.f39,Option.bind_some,zhv,zhu] at hT
 simp at hT
 subst hT;obtain⟨A2,c2,e2,hc,hm,-⟩:=id hS;have hm':r.length≤140737488355328:=by omega
 clear hc hm e2 A2 c2;have HRR:=hd_ hRR;have HS:=hd_ hS;have HA:=hd_ hA;have HL:=hd_ (zjb O r hl);clear hRR hS hA hl;go_wp2_with fail;go_loopw [77] (fun i wr=>∃(k:Nat) (v':Value),k≤r.length∧i=.int .i64 k∧Hid (Aft w0 wr w0.heap.size (O++(r.take k).flatMap z4t) v')) (fun i _=>r.length - (intOf i).toNat)
 case atStart=>exact⟨0,v,Nat.zero_le _,rfl,hd_ (by rw[List.take_zero,List.flatMap_nil,List.append_nil];exact HA.out)⟩
 case round =>
  obtain⟨k,v',hk,rfl,HI⟩:=hrel;clear HA;by_cases hlt:k<r.length
  ·obtain⟨ad,rfl,hab,y0,y1,y2,y3,y4⟩:=z4z.at_ (HS.out.below HI.out.bel) hlt;have HST:=hd_ (zj7 r k hlt);have HLK:=hd_ (HL.out k);generalize r[k]=x at y0 y1 y2 y3 y4 HST;have HX:=hd_ (HI.out.alloc (.cells #[.int .i64 x.kind,.string x.path,.int .i64 x.num,.string x.frm,.string x.dst] 48));obtain⟨z0,z1,z2,z3,z4⟩:=z3r (x:=x) (z0l wr [.int .i64 x.kind,.string x.path,.int .i64 x.num,.string x.frm,.string x.dst] 48);have HSY:=hd_ (z3u x (wr.alloc (.cells #[.int .i64 x.kind,.string x.path,.int .i64 x.num,.string x.frm,.string x.dst] 48)));cases hst:z3o x.kind with
   | true =>
    have HP:Hid (z4t x=[]):=hd_ (by unfold z4t;rw[hst];rfl)
    rw[hst] at HSY;clear hst;go_wp2_with fail;refine HSY.out.mono ?_;rintro e w' ⟨rfl,hb⟩;have HX2:=hd_ (HX.out.under hb);clear hb;go_wp2_with fail;go_roundw
    case rel=>exact⟨k+1,v',by omega,by go_num,by rw[HST.out,HP.out,List.append_nil];exact HX2⟩
    case measure=>simp [intOf];omega
   | false =>
    have HP:Hid (z4t x=z4s x):=hd_ (by unfold z4t;rw[hst];rfl)
    rw[hst] at HSY;clear hst;go_wp2_with fail;refine HSY.out.mono ?_;rintro e w' ⟨rfl,hb⟩;have HX2:=hd_ (HX.out.under hb);have HB2:=hd_ ((z0l wr [.int .i64 x.kind,.string x.path,.int .i64 x.num,.string x.frm,.string x.dst] 48).below hb (by simp))
    clear hb;obtain⟨q0,q1,q2,q3,q4⟩:=z3r (x:=x) HB2.out;have HAD:=hd_ (z58 x w0 w' w0.heap.size _ v' HX2.out HLK.out);go_wp2_with fail;refine HAD.out.mono ?_;rintro e w3 ⟨rfl,v3,h3,h4⟩;have HX3:=hd_ h3;clear h3 h4;go_wp2_with fail;go_roundw
    case rel=>exact⟨k+1,v3,by omega,by go_num,by rw[HST.out,HP.out,← List.append_assoc];exact HX3⟩
    case measure=>simp [intOf];omega
  ·have hbx:wr.cell? ⟨w0.heap.size,0,none⟩=some v':=HI.out.box.cell 0;have HT:Hid (r.take k=r):=hd_ (List.take_of_length_le (by omega))
   have HR:=hd_ (HRR.out v' wr (by have:=HI.out;rw[HT.out] at this;exact this))
   go_wp2_with fail;exact HR.out
theorem zo8 (p:Pat)(b:Bool)(hbr:p.rest=b)(A:Option Addr)(c:Nat)(w:World)(hp:za9 w (.slice A p.parts.length c) p)(h0:z7e p=0):
  Calls prog 245 #[.agg #[.slice A p.parts.length c,.bool b]] w fun e w'=>e=.returned (.int .i64 ((za2 p+(if b then 1 else 0):Nat):Int))∧Below w.heap.size w w':=by
 have hA:Below w.heap.size w (w.alloc (.cells #[.slice A p.parts.length c,.bool b] 97)):=(Below.refl _ _).alloc (Nat.le_refl _) _;have h2:zbo (w.alloc (.cells #[.slice A p.parts.length c,.bool b] 97)) w.heap.size (.slice A p.parts.length c) b:=z0l w [.slice A p.parts.length c,.bool b] 97;have HK:Hid (Calls prog 182 #[.agg #[.slice A p.parts.length c,.bool b]] (w.alloc (.cells #[.slice A p.parts.length c,.bool b] 97)) fun e w'=>e=.returned (.tuple #[.int .i64 (za2 p),.bool b])∧Below (w.alloc (.cells #[.slice A p.parts.length c,.bool b] 97)).heap.size (w.alloc (.cells #[.slice A p.parts.length c,.bool b] 97)) w'):=hd_ (by
  have:=zni p A c _ (hp.below hA) h0;unfold znh at this;rw[hbr] at this;exact this)
 have HA:=hd_ hA;have hs12:za2 p≤12:=Nat.le_trans (List.length_filter_le ..) (zao h0);have x0:=h2.c0;have x1:=h2.c1;clear hp hbr h0 hA h2;go_enter func245,ntmps245;cases b
 all_goals
  go_wp2_with fail;refine HK.out.mono ?_;rintro e w2 ⟨rfl,hb⟩;dsimp only;have HB:=hd_ (z0r HA.out hb);clear hb x0 x1;go_wp2_with fail;go_ret;exact⟨by simp,HB.out⟩
structure RfSt (w2 wr:World)(parts caps:List ByteArray)(k:Nat)(done:List ByteArray)(av:Value):Prop where
 low:Below w2.heap.size w2 wr
 own:wr.ownsRow w2.heap.size 9 1 av k (done.map .string)
 len:done.length=k
 is:done++zbs (parts.drop k) (caps.drop (za1 parts k))=zbs parts caps
theorem RfSt.plain {w2 wr wy:World}{parts caps:List ByteArray}{k:Nat}{done:List ByteArray}{av av':Value}(h:RfSt w2 wr parts caps k done av)(hk:k<parts.length)(hs:z79 parts[k]=false)(hl:Below w2.heap.size w2 wy)(ho:wy.ownsRow w2.heap.size 9 1 av' (k+1) ((done++[parts[k]]).map .string)):
  RfSt w2 wy parts caps (k+1) (done++[parts[k]]) av':=by
 have e:za1 parts (k+1)=za1 parts k:=by rw[za3 hk,hs];rfl
 refine⟨hl,ho,by rw[List.length_append,h.len];rfl,?_⟩
 rw[e,← h.is,List.drop_eq_getElem_cons hk];conv=>rhs;unfold zbs
 rw[hs];simp
theorem RfSt.star {w2 wr wy:World}{parts caps:List ByteArray}{k:Nat}{done r:List ByteArray}{c:ByteArray}{av av':Value}(h:RfSt w2 wr parts caps k done av)(hk:k<parts.length)(hs:z79 parts[k]=true)(hr:caps.drop (za1 parts k)=c :: r)(hl:Below w2.heap.size w2 wy)(ho:wy.ownsRow w2.heap.size 9 1 av' (k+1) ((done++[c++z80 parts[k]]).map .string)):
  RfSt w2 wy parts caps (k+1) (done++[c++z80 parts[k]]) av':=by
 have e:za1 parts (k+1)=za1 parts k+1:=by rw[za3 hk,hs];rfl
 have e2:caps.drop (za1 parts (k+1))=r:=by rw[e,← List.drop_drop,hr];rfl
 refine⟨hl,ho,by rw[List.length_append,h.len];rfl,?_⟩
 rw[e2,← h.is,List.drop_eq_getElem_cons hk,hr];conv=>rhs;unfold zbs
 rw[hs];simp
theorem zo9 {w W w':World}{row:Option Nat}(h:Below w.heap.size w W)(hg:W.grownBy w' row)(hr:∀ k,row=some k→w.heap.size≤k):Below w.heap.size w w':=
 ⟨hg.os.trans h.os,hg.tape.trans h.tape,hg.output.trans h.output,Nat.le_trans h.size hg.size,fun k hk=>(hg.block k (Nat.lt_of_lt_of_le hk h.size) (fun e=>by have:=hr k e.symm;omega)).trans (h.block k hk)⟩
theorem zoa (xs ys zs:List (List UInt8))(h1:ys≠[])(h2:zs≠[])(h:Lib.join ys [47]=Lib.join zs [47]):Lib.join (xs++ys) [47]=Lib.join (xs++zs) [47]:=by
 induction xs with
 | nil=>exact h
 | cons x xs ih =>
  rw[List.cons_append,List.cons_append,z1h x (xs++ys) (by simp [h1]),z1h x (xs++zs) (by simp [h2]),ih]
theorem zob (xs:List (List UInt8))(l:List UInt8):Lib.join (xs++z1a l) [47]=Lib.join (xs++[l]) [47]:=
 zoa xs _ _ (z1b l) (by simp) (by rw[z1i];simp [Lib.join])
end Go.Proofs.YtegeboijhifmcaaGreatDoor
