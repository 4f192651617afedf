/- A part. -/
import Derived.Test.YtlnjaagijaadmaaGreatDoorMvw16
import Derived.Test.YtlnjaagijaadmaaGreatDoorMvw15
set_option linter.unusedVariables false
set_option linter.unusedSimpArgs false
set_option maxHeartbeats 8000000
set_option maxRecDepth 100000
namespace Go.Proofs.YtlnjaagijaadmaaGreatDoor
open Go.Proofs.Tryz
open Go.RowKit
def zcv (l r:Pat)(s:zA):Option zA:=(zaj l s).map (zcn r)
def zcw (w:zW)(o:Option zA)(e:Ending)(w':zW):Prop:=e=.returned (.tuple #[zS (o.getD ⟨#[]⟩),.bool o.isSome])/\zB w w'
theorem zcx (l r:Pat)(s:zA)(A B:zP)(a b:Nat)(w:zW)(he:Env w)(hs:s.size<=1000000)(hl:zbx w (zL A l.kp.length a) l)(hr:zbx w (zL B r.kp.length b) r)(hf:∀ caps,zaj l s=some caps->zco r caps):
  Calls prog 105 #[.agg #[zL A l.kp.length a,.bool l.kr],.agg #[zL B r.kp.length b,.bool r.kr],zS s] w (zcw w (zcv l r s)):=by
 have hA:zB w ((w.alloc (zC #[zL A l.kp.length a,.bool l.kr] 56)).alloc (zC #[zL B r.kp.length b,.bool r.kr] 56)):=(zR).alloc (by simp) _
 have h2:zch ((w.alloc (zC #[zL A l.kp.length a,.bool l.kr] 56)).alloc (zC #[zL B r.kp.length b,.bool r.kr] 56)) w.heap.size (zL A l.kp.length a) l.kr:=(z0l w [zL A l.kp.length a,.bool l.kr] 56).alloc _;have h3:zch ((w.alloc (zC #[zL A l.kp.length a,.bool l.kr] 56)).alloc (zC #[zL B r.kp.length b,.bool r.kr] 56)) (w.heap.size+1) (zL B r.kp.length b) r.kr:=by
  have:=z0l (w.alloc (zC #[zL A l.kp.length a,.bool l.kr] 56)) [zL B r.kp.length b,.bool r.kr] 56;rw[Zl] at this;exact this
 have HM:=hd_ (fun X (hX:zB w X)=>zaw l s A a X (he.kw hX) hs (hl.kw hX).1 hl.small);have HFI:=hd_ (fun X (hX:zB w X) caps cv (hc:z20 X cv caps) (h:zaj l s=some caps)=>fill_ok r caps B b cv X (he.kw hX) (hr.kw hX) hc (hf caps h));have HT:Hid (zcv l r s=(zaj l s).map (zcn r)):=hd_ rfl;clear he hl hr hf;go_enter func105,ntmps105;go_upto_region 1 with fail;generalize (w.alloc (zC #[zL A l.kp.length a,.bool l.kr] 56)).alloc (zC #[zL B r.kp.length b,.bool r.kr] 56)=W1 at hA h2 h3 |-;have x0:=h2.c0;have x1:=h2.c1;have HA:=hd_ hA;have H3:=hd_ h3;have HM1:=hd_ (HM W1 hA);clear h2 h3 hA HM;go_wp2_with fail;refine HM1.mono ?_;rintro e w2 ⟨A',n,c,rfl,hb,hm⟩;have HB:=hd_ (z0r HA hb);have h3:=H3.out.low hb;have y0:=h3.c0;have y1:=h3.c1;clear x0 x1 hb h3 HM1;obtain⟨o,ho⟩:∃ o,zaj l s=o:=⟨_,rfl⟩;have HO:=hd_ ho;rw[ho] at HT hm |-;clear ho;cases o with
 | none =>
  have HR:Hid (zcv l r s=none):=hd_ (by rw[HT.out];rfl)
  clear hm HT;go_wp2_with fail;go_ret2;exact⟨by rw[HR.out];rfl,HB⟩
 | some caps =>
  have HR:Hid (zcv l r s=some (zcn r caps)):=hd_ (by rw[HT.out];rfl)
  obtain⟨rfl,hcs⟩:=hm caps rfl;have HC:=hd_ (HFI w2 HB caps _ hcs HO);generalize zcn r caps=tx at HC HR;clear hm hcs HT HFI;go_wp2_with fail;refine HC.mono ?_;rintro e w3 ⟨rfl,hb⟩;have HB3:=hd_ (z0r HB hb);clear hb y0 y1;go_wp2_with fail;go_ret2;exact⟨by rw[HR.out];rfl,HB3⟩
theorem zcy (ex:Bool)(l r:Pat)(s:zA)(A B:zP)(a b:Nat)(w:zW)(he:Env w)(hs:s.size<=1000000)(hl:zbx w (zL A l.kp.length a) l)(hr:zbx w (zL B r.kp.length b) r)(h0:zbw l r=0)(hf:∀ caps,zaj l s=some caps->zco r caps):
  Calls prog 55 #[.agg #[.bool ex,zL A l.kp.length a,.bool l.kr,zL B r.kp.length b,.bool r.kr],zS s] w (zcw w (zcv l r s)):=by
 have hB:=z0l w [.bool ex,zL A l.kp.length a,.bool l.kr,zL B r.kp.length b,.bool r.kr] 62;have hA:zB w (w.alloc (zC #[.bool ex,zL A l.kp.length a,.bool l.kr,zL B r.kp.length b,.bool r.kr] 62)):=zR;have HC:=hd_ (fun X (hX:zB w X)=>zby ex l r A B a b X (hl.kw hX) (hr.kw hX));rw[h0] at HC;have HT:=hd_ (fun X (hX:zB w X)=>zcx l r s A B a b X (he.kw hX) hs (hl.kw hX) (hr.kw hX) hf);clear he hl hr hf h0;generalize zcv l r s=o at HT |-;go_enter func55,ntmps55;go_upto_region 1 with fail;generalize w.alloc (zC #[.bool ex,zL A l.kp.length a,.bool l.kr,zL B r.kp.length b,.bool r.kr] 62)=W1 at hA hB |-;obtain⟨d0,d1,d2,d3,d4⟩:=(⟨hB.cell 0,hB.cell 1,hB.cell 2,hB.cell 3,hB.cell 4⟩:W1.cell? ⟨w.heap.size,0,none⟩=some (.bool ex)/\W1.cell? ⟨w.heap.size,1,none⟩=some (.slice A l.kp.length a)/\W1.cell? ⟨w.heap.size,2,none⟩=some (.bool l.kr)/\W1.cell? ⟨w.heap.size,3,none⟩=some (.slice B r.kp.length b)/\W1.cell? ⟨w.heap.size,4,none⟩=some (.bool r.kr));have HB:=hd_ hB;have HA:=hd_ hA;have HC1:=hd_ (HC W1 hA);clear hA hB HC;go_wp2_with fail;refine HC1.mono ?_;rintro e w2 ⟨rfl,hb⟩;have hB2:=HB.out.kw hb HB.out.lt;have HB2:=hd_ (z0r HA hb);have HT2:=hd_ (HT w2 HB2);clear hb d0 d1 d2 d3 d4 HC1 HT;obtain⟨d1,d2,d3,d4⟩:=(⟨hB2.cell 1,hB2.cell 2,hB2.cell 3,hB2.cell 4⟩:w2.cell? ⟨w.heap.size,1,none⟩=some (.slice A l.kp.length a)/\w2.cell? ⟨w.heap.size,2,none⟩=some (.bool l.kr)/\w2.cell? ⟨w.heap.size,3,none⟩=some (.slice B r.kp.length b)/\w2.cell? ⟨w.heap.size,4,none⟩=some (.bool r.kr));clear hB2;go_wp2_with fail;refine HT2.mono ?_;rintro e w3 ⟨rfl,hb⟩;have HB3:=hd_ (z0r HB2 hb);clear hb d1 d2 d3 d4;go_wp2_with fail;go_ret2;exact⟨rfl,HB3⟩
open Go.Sort (grow)
def addP (l:List zA)(p:zA):List zA:=if p∈l then l else l++[p]
def zjv (D:List Rev):List zA:=D.foldl (fun l r=>addP l r.kt) []
theorem zjw (D:List Rev)(k:Nat)(hk:k<D.length):zjv (D.take (k+1))=addP (zjv (D.take k)) D[k].kt:=by
 unfold zjv;rw[Zr hk,List.foldl_append];rfl
theorem zjx {l:List zA}{p q:zA}:q∈addP l p↔q∈l\/q=p:=by
 unfold addP;split
 ·rename_i h
  exact⟨.inl,fun h2=>h2.elim id fun e=>e ▸ h⟩
 ·simp
theorem zjy (D:List Rev){q:zA}:q∈zjv D↔∃ r∈D,r.kt=q:=by
 suffices h:∀(D:List Rev) (l:List zA),q∈D.foldl (fun l r=>addP l r.kt) l↔q∈l\/∃ r∈D,r.kt=q by
  unfold zjv;rw[h];simp
 intro D;induction D with
 | nil=>intro l;simp
 | cons r D ih =>
  intro l;rw[List.foldl_cons,ih,zjx];constructor
  ·rintro ((h | h) | ⟨x,hx,h⟩)
   ·exact .inl h
   ·exact .inr ⟨r,Zj ..,h.symm⟩
   ·exact .inr ⟨x,Zh _ hx,h⟩
  ·rintro (h | ⟨x,hx,h⟩)
   ·exact .inl (.inl h)
   ·rcases Zn.1 hx with rfl | hx
    ·exact .inl (.inr h.symm)
    ·exact .inr ⟨x,hx,h⟩
theorem zjz (D:List Rev):(zjv D).Nodup:=by
 suffices h:∀(D:List Rev) (l:List zA),l.Nodup->(D.foldl (fun l r=>addP l r.kt) l).Nodup from h D [] List.nodup_nil
 intro D;induction D with
 | nil=>intro l hl;exact hl
 | cons r D ih =>
  intro l hl;rw[List.foldl_cons];refine ih _ ?_;unfold addP;split
  ·exact hl
  ·rename_i h
   exact List.nodup_append.2 ⟨hl,by simp,fun a ha b hb=>by rw[Zm] at hb;subst hb;exact fun e=>h (by rw[<- e];exact ha)⟩
theorem zk0 {α:Type}[DecidableEq α]:∀ {l B:List α},l.Nodup->(∀ x∈l,x∈B)->l.length<=B.length
 | [],B,_,_=>Zg _
 | a :: l,B,hn,hs=>by
  have h1:=List.nodup_cons.1 hn;have ha:=hs a (Zj ..);have:=zk0 (B:=B.erase a) h1.2 fun x hx=>(List.mem_erase_of_ne (fun e=>h1.1 (by rw[<- e];exact hx))).2 (hs x (Zh _ hx))
  rw[List.length_erase_of_mem ha] at this;have hp:=List.length_pos_of_mem ha;rw[Zz];omega
theorem zk1 {D:List Rev}{B:List zA}(h:∀ r∈D,r.kt∈B):(zjv D).length<=B.length:=zk0 (zjz D) fun q hq=>by
 obtain⟨r,hr,rfl⟩:=(zjy D).1 hq;exact h r hr
theorem zk2 {l l':List zA}(hp:l'.Perm l)(hs:l'.Pairwise (fun a b=>¬ z30 b a<0))(hn:l.Nodup)(hv:∀ x∈l,z2y x=true):z71 (fun q:zA=>q) l':=by
 have hn':l'.Pairwise (·≠·):=(hp.nodup_iff).2 hn;have hv':∀ x∈l',z2y x=true:=fun x hx=>hv x (hp.mem_iff.1 hx);have h2:=List.pairwise_and_iff.2 ⟨hs,hn'⟩;unfold z71;refine (List.Pairwise.imp_of_mem ?_ h2);intro a b ha hb ⟨h3,h4⟩
 rw[z6t] at h3;have h5:z30 a b≠0:=fun e=>h4 (z6u (hv' a ha) (hv' b hb) e);show z30 a b<0
 omega
structure zk3 (w wr:zW)(v:zV)(l:List zA):Prop where
 low:zB w wr
 map:z2l zS z5z wr (w.heap.size+1) (z5y l)
 own:wr.ownsRow (w.heap.size+1+1) 9 1 v l.length (l.map .string)
theorem zk3.ku {w wr wx:zW}{v:zV}{l:List zA}(h:zk3 w wr v l)(hb:zB wr wx):zk3 w wx v l:=⟨z0r h.low hb,h.map.kw hb,z0n h.own hb⟩
theorem zk3.upd {w wr w3:zW}{v:zV}{l:List zA}{f:zA->Option Unit}(h:zk3 w wr v l)(hM:z2l zS z5z w3 (w.heap.size+1) f)(hg:wr.grownBy w3 (some (w.heap.size+1))):
  zB w w3/\w3.ownsRow (w.heap.size+1+1) 9 1 v l.length (l.map .string):=
 ⟨h.low.grown hg h.low.size (fun k e=>by injection e with e;omega),z5b h.own hg (fun x e e2=>by injection e2 with e2;have:=(h.own.lt x e).1;omega)⟩
theorem zk4 (p:zA)(l:List zA):z5y (l++[p])=upd (z5y l) p ():=by
 rw[<- z60];funext x
 unfold z5y;by_cases h:x∈l++[p]
 ·rw[if_pos h,if_pos (by simp at h |-;exact h.symm)]
 ·rw[if_neg h,if_neg (by simp at h |-;exact⟨h.2,h.1⟩)]
theorem zk5 (D:List Rev)(B:List zA)(dv dr:zV)(w:zW)(hR:z3w w dv D)(hl:D.length<=1000000)(hB:∀ r∈D,r.kt∈B)(hB12:B.length<=12)(hBv:∀ x∈B,z2y x=true/\x.size<=1000000):
  Calls prog 25 #[.agg #[dv,dr]] w fun e w'=>∃ v l,e=.returned v/\zB w w'/\z20 w' v l/\z71 (fun q:zA=>q) l/\∀ q,q∈l↔∃ r∈D,r.kt=q:=by
 obtain⟨Ar,cr,rfl,-⟩:=id hR;have hBox:=z0l w [zL Ar D.length cr,dr] 27;have hA:zB w (w.alloc (zC #[zL Ar D.length cr,dr] 27)):=zR;have hs1:(w.alloc (zC #[zL Ar D.length cr,dr] 27)).heap.size=w.heap.size+1:=by simp
 have hmm:=@run_makeMap prog;have HR:=hd_ hR;have HB:=hd_ hB;have HBV:=hd_ hBv;have HLL:Hid (∀ k,(zjv (D.take k)).length<=12):=hd_ (fun k=>Zf (zk1 (B:=B) fun r hr=>hB r (List.mem_of_mem_take hr)) hB12);have HTK:=hd_ (zjw D);clear hR hB hBv hB12;go_enter func25,ntmps25;go_upto_region 1 with fail;generalize w.alloc (zC #[zL Ar D.length cr,dr] 27)=W1 at hBox hA hs1 |-;have HS0:Hid (zk3 w (W1.alloc (.map #[] 0)) (zL none 0 0) []):=hd_ (by
  refine⟨hA.alloc hA.size _,?_,Zv _ _ _ _⟩;have:=z2l.new zS z5z W1;rw[hs1] at this;exact this)
 have d0:(W1.alloc (.map #[] 0)).cell? ⟨w.heap.size,0,none⟩=some (.slice Ar D.length cr):=(hBox.alloc _).cell 0;have HS1:=hd_ hs1;clear hBox hA hs1;go_upto_region 3 with fail;rw[HS1.out];generalize W1.alloc (.map #[] 0)=W2 at HS0 d0 |-;clear hmm;go_wp2_with fail;go_loopw [4,13] (fun lv i wr=>∃(k n:Nat) (A:zP) (c:Nat),lv=zL A n c/\i=zI k/\k<=D.length/\Hid (n=(zjv (D.take k)).length/\zk3 w wr (zL A n c) (zjv (D.take k)))) (fun _ i _=>D.length - (intOf i).toNat)
 exact⟨0,0,none,0,rfl,rfl,Zg _,hd_ ⟨rfl,HS0⟩⟩
 obtain⟨k,n,A,c,rfl,rfl,hk,HI⟩:=hrel;clear d0;by_cases hlt:k<D.length
 ·obtain⟨ad,rfl,hab,hld⟩:=z3w.at_ (HR.out.kw HI.out.2.low) hlt;have HT:=hd_ (HTK k hlt);have hbv:=HBV.out _ (HB.out D[k] (Za hlt));have HL1:=hd_ (HLL (k+1));have HL0:=hd_ (HLL k);generalize D[k]=r at hld HT hbv;obtain⟨x0,x1,x2,x3,x4,x5,x6,x7,x8,x9,x10,x11⟩:=hld;have hX:=z0l wr [zS r.kt,zI r.num,zI r.chg,zI r.act,zI r.ty.base,.bool r.ty.k,.bool r.ty.l,.bool r.ty.x,.int .u64 r.sum,zI r.size,zS r.frm,zI r.fnum] 78;have HX:Hid (zk3 w (wr.alloc (zC #[zS r.kt,zI r.num,zI r.chg,zI r.act,zI r.ty.base,.bool r.ty.k,.bool r.ty.l,.bool r.ty.x,.int .u64 r.sum,zI r.size,zS r.frm,zI r.fnum] 78)) (zL A n c) (zjv (D.take k))):=hd_ (HI.2.ku (zR));go_upto_region 6 with fail;clear x0 x1 x2 x3 x4 x5 x6 x7 x8 x9 x10 x11 hab;have hg6:w.heap.size+1<wr.heap.size:=HI.out.2.map.lt;generalize wr.alloc (zC #[zS r.kt,zI r.num,zI r.chg,zI r.act,zI r.ty.base,.bool r.ty.k,.bool r.ty.l,.bool r.ty.x,.int .u64 r.sum,zI r.size,zS r.frm,zI r.fnum] 78)=W6 at hX HX |-;generalize wr.heap.size=g6 at hX hg6 |-;have y0:W6.cell? ⟨g6,0,none⟩=some (zS r.kt):=hX.cell 0;have HX6:=hd_ hX;have HN0:=hd_ HI.1;clear hX;generalize hll:zjv (D.take k)=l at HX HT HL0 HN0;obtain⟨p,hpe⟩:∃ p,r.kt=p:=⟨_,rfl⟩;rw[hpe] at y0 HT hbv;have HPE:=hd_ hpe;clear hpe;have HLK:=hd_ hlt;have hlk:=z2l.lookup (w:=W6) HX.out.map (z2j underlying9) underlying118 (z:=.agg #[]) (by rfl) p true
  clear hll HI;by_cases hin:p∈l
  ·have hv:z2n z5z (.agg #[]) true (z5y l p)=.tuple #[.agg #[],.bool true]:=by unfold z5y;rw[if_pos hin];rfl
   rw[hv] at hlk;have HT2:Hid (zjv (D.take (k+1))=l):=hd_ (by rw[HT.out];exact if_pos hin)
   clear hin hv;go_wp2_with fail;go_roundw
   exact⟨k+1,n,A,c,rfl,by go_num,by omega,hd_ ⟨by rw[HT2.out];exact HN0,by rw[HT2.out];exact HX.ku (zR)⟩⟩
   simp [intOf];omega
  ·have hv:z2n z5z (.agg #[]) true (z5y l p)=.tuple #[.agg #[],.bool false]:=by unfold z5y;rw[if_neg hin];rfl
   rw[hv] at hlk;have HT2:Hid (zjv (D.take (k+1))=l++[p]):=hd_ (by rw[HT.out];exact if_neg hin)
   have HVA:=hd_ (fun X=>zey p true hbv.1 X (by have:=hbv.2;omega))
   clear hin hv;have HX7:=hd_ (HX.ku ((Zb W6.heap.size W6).alloc (Zd _) (zC #[] 119)));have hX7:=HX6.out.alloc (zC #[] 119);have y7:(W6.alloc (zC #[] 119)).cell? ⟨g6,0,none⟩=some (zS p):=by rw[<- HPE.out];exact hX7.cell 0
   obtain⟨w3,hup,hM3,hg3,-⟩:=z2l.update (w:=W6.alloc (zC #[] 119)) HX7.out.map (z2j underlying9) underlying118 p ();have hup':(Instr.mapUpdate 118 (.map (some (w.heap.size+1))) (zS p) (.agg #[])).run prog (W6.alloc (zC #[] 119))=.ok () w3:=hup;have y3:w3.cell? ⟨g6,0,none⟩=some (zS p):=by rw[<- HPE.out];exact (hX7.grown hg3 (fun e=>by injection e with e;omega)).cell 0
   obtain⟨hlo,how⟩:=HX7.out.upd hM3 hg3;have hba:zB w3 (w3.alloc (zC #[zS p] 9)):=zR;have hlo4:=z0r hlo hba;have how4:=z0n how hba;have hM4:=hM3.kw hba;have hrow:=z0i w3 [zS p] 9 1 1 rfl (by decide) _ rfl
   have hsz:w.heap.size+1+1<=(w3.alloc (zC #[zS p] 9)).heap.size:=by have:=hM4.lt;omega
   have HN1:=hd_ HN0;have hn12:n<=12:=by have h1:=HN0.out;have h2:=HL0.out;omega
   have hown:(w3.alloc (zC #[zS p] 9)).ownsRow (w.heap.size+1+1) 9 1 (zL A n c) n (l.map .string):=by rw[HN0.out] at how4 |-;exact how4
   have HLO:=hd_ hlo4;have HMA:=hd_ hM4;have HOW:=hd_ hown;clear hup hX7 hlo how hba hlo4 how4 hM4 hown hM3;go_wp2_with (first
    | (go_at_call 50;refine (HVA _).mono ?_;rintro e w' ⟨rfl,rfl⟩)
    | (at_builtin;refine z0j rfl rfl zac HOW rfl hrow rfl (by simp [Value.oneCell']) (by omega) (by unfold maxLen;omega) hsz ?_;intro A' c' w9 hown hgr hob))
   have HP:Hid (zk3 w w9 (zL A' (n+1) c') (l++[p])):=hd_ (by
    refine⟨HLO.grown hgr HLO.size (fun k e=>by have:=(HOW.out.lt k e).1;omega),?_,?_⟩
    ·rw[zk4];exact HMA.grown hgr (fun e=>by have:=(HOW.out.lt _ e.symm).1;omega)
    ·rw[Zc,ZL,<- HN1.out,Zs];exact hown)
   clear hown hgr hob;go_wp2_with fail;go_roundw
   exact⟨k+1,n+1,A',c',rfl,by go_num,by omega,hd_ ⟨by rw[HT2.out,Zc,<- HN1.out];rfl,by rw[HT2.out];exact HP⟩⟩
   simp [intOf];omega
 ·have hke:k=D.length:=by omega
  subst hke;rw[ZH] at HI;have hge:¬((D.length:Int)<(D.length:Int)):=by omega
  have HLD:=hd_ (HLL D.length);rw[ZH] at HLD;have HSO:=hd_ (zju (zjv D) (zL A n c) (w.heap.size+1+1) wr HI.2.own HLD (fun x hx=>by
   obtain⟨r,hr,rfl⟩:=(zjy D).1 hx;exact HBV _ (HB r hr)))
  go_wp2_with fail;refine HSO.mono ?_;rintro e w9 ⟨rfl,h9⟩;have H9:=hd_ h9;clear h9;go_wp2_with fail;go_ret;obtain⟨l',hp,hs,hr,hg⟩:=H9.out;refine⟨_,l',rfl,HI.2.low.grown hg HI.2.low.size (fun k e=>by have:=(HI.out.2.own.lt k e).1;omega),?_,zk2 hp hs (zjz D) (fun x hx=>by
   obtain⟨r,hr,rfl⟩:=(zjy D).1 hx;exact (HBV _ (HB r hr)).1),fun q=>by rw[hp.mem_iff];exact zjy D⟩
  show Row w9 1 _ l'.length _
  rw[hp.length_eq];exact hr
section
variable {u0 u1 u2 u3 u4 u5 u6 u7 u8 u9 gF gG gH gI gJ gK gL gM gN gO gP gQ gR gT gV gW gX gY gZ i6 i7 i8 ia ib ic ie ig ii ij ik il im io ip iq ir iu iv iw iy iz iA iB iC iD iE iF iG iH iI iJ iK iL iM iN iO iP iQ iR iS iT iU iV iW iX iY iZ j0 j1 j2 j9 jb jd je jf jg jh ji jj jk jl jm jn jo jp jq jr js jt ju bB bD bE bF bG bH bI bJ bK bL bM bN bO bP bQ bT bU bV bW bX bY bZ ca cj cn cx cy : zV}
theorem zo6 {P:Program}{W:zW}{ops:Array Oper}{o:Oper}{a:Act}{K:Act->zW->Prop}{Q:Exit->Act->zW->Prop}{E:Prop}(hgd:o.guard=none){s x:Operand}{t:TypeId}
  (ho:o.op=.call { callee:=.builtin .append,args:=#[s,x],argTypes:=#[t,t] })
  {e:TypeId} {size bytes base:Nat} (he:z0e P t e size bytes) {v:zV} {n:Nat} {xs:List zV} (hown:zj9 W base e size v n xs) (hs:a.eval s=v)
  {ad:Addr} {m c:Nat} {news:List zV} (hx:a.eval x=zL (some ad) m c) (hl:news.length=m * size) (hnews:∀ j u,news[j]? = some u->W.cell? (ad.add j)=some u) (h1:∀ u∈news,u.oneCell'=true) (hm:0<m) (hbytes:(n+m) * bytes<=140737488355328) (h63:n+m<=maxLen) (hbase:base<=W.heap.size)
  (h:∀ A' c' w',zj9 w' base e size (zL A' (n+m) c') (n+m) (xs++news)->W.grownBy w' v.ownBlock ->
   ((zL A' (n+m) c').ownBlock=v.ownBlock\/(zL A' (n+m) c').ownBlock=some W.heap.size)->K (a.put o.dst (zL A' (n+m) c')) w'):
  if Region.wanted o (yielded ops a.tmps)=true then Oper.wp P o a W K Q else E:=by
 have hw:Region.wanted o (yielded ops a.tmps)=true:=by simp [Region.wanted,hgd]
 rw[if_pos hw];obtain⟨A',c',w',hrun,h2,h3,h4⟩:=zjb (ty:=o.type) he hown hl hnews h1 hm hbytes h63 hbase;unfold Oper.wp execOp;simp only[ho,resolve,invoke,builtin,Sem.run_bind,Sem.run_pure,Result.andThen_ok,List.map_toArray,ZN,List.map_nil,hs,hx]
 rw[hrun];exact h A' c' w' h2 h3 h4
theorem zo7 (W:zW)(cs:List zV)(t:TypeId):∀ j u,cs[j]? = some u->(W.alloc (.cells cs.toArray t)).cell? ((⟨W.heap.size,0,none⟩:Addr).add j)=some u:=by
 intro j u hu;rw[Addr.add_lit,World.cell?_alloc_mark];simpa using hu
def zo8 (V w':zW)(v:zV):Prop:=∃ Y,zB V Y/\Y.grownBy w' v.ownBlock
theorem zo8.block {V w':zW}{v:zV}(h:zo8 V w' v){k:Nat}(hk:k<V.heap.size)(hne:v.ownBlock≠some k):w'.heap[k]? = V.heap[k]?:=by
 obtain⟨Y,h1,h2⟩:=h;exact (h2.block k (Zq hk h1.size) (fun e=>hne e.symm)).trans (h1.block k hk)
theorem zo8.size {V w':zW}{v:zV}(h:zo8 V w' v):V.heap.size<=w'.heap.size:=by
 obtain⟨Y,h1,h2⟩:=h;exact Zf h1.size h2.size
theorem zo8.low {V w' X:zW}{v:zV}{B:Nat}(h:zo8 V w' v)(hX:Below B X V)(hB:B<=V.heap.size)(hv:∀ k,v.ownBlock=some k->B<=k):Below B X w':=by
 obtain⟨Y,h1,h2⟩:=h;exact (hX.trans (h1.mono hB)).grown h2 (Zf hB h1.size) hv
theorem bkR26 (ops:Array Oper)(hops:Tryz.f74.body.bind (z0w 26)=some ops)(Q:Exit->Act->zW->Prop)(V1:zW)(g n c i nq cq B2:Nat)(Aq:zP)(xs:List zV)(p f:zA)
  (hq:zj9 V1 B2 84 3 (zL Aq nq cq) nq xs) (hp1:V1.cell? ⟨g,i * 5+1,none⟩=some (zS p)) (hp3:V1.cell? ⟨g,i * 5+3,none⟩=some (zS f)) (hi:i<n) (hB2:B2<=V1.heap.size) (hg:g<B2) (hnq:nq<=2000000)
  (hQ:∀(ap aq ar au aw ax ay aA aB aC aD aE aF aG:zV) (A':zP) (c':Nat) (w':zW),Hid (zj9 w' B2 84 3 (zL A' (nq+1) c') (nq+1) (xs++[zS p,zI 0,zS f])/\zo8 V1 w' (zL Aq nq cq)/\((zL A' (nq+1) c').ownBlock=(zL Aq nq cq).ownBlock\/∃ x,(zL A' (nq+1) c').ownBlock=some x/\V1.heap.size<=x))->Q .normal ⟨#[u0,zL (some ⟨g,0,none⟩) n c,u2,u3,u4,u5,u6,u7,zL A' (nq+1) c',u9,gF,gG,gH,gI,gJ,zI i,gL,gM,gN,gO,gP,gQ,gR,gT,gV,gW,gX,gY,gZ,i6,i7,i8,ia,ib,ic,ie,ig,ii,ij,ik,il,im,io,ip,iq,ir,iu,iv,iw,iy,iz,iA,iB,iC,iD,iE,iF,iG,iH,iI,iJ,iK,iL,iM,iN,iO,iP,iQ,iR,iS,iT,iU,iV,iW,iX,iY,iZ,j0,j1,j2,j9,jb,jd,je,jf,jg,jh,ji,jj,jk,jl,jm,jn,jo,jp,jq,jr,js,jt,ju,bB,bD,bE,bF,bG,bH,bI,bJ,bK,bL,bM,bN,ap,aq,ar,au,aw,ax,ay,aA,aB,aC,aD,aE,aF,aG,cy],[]⟩ w'):
  (Code.region 26 ops true).wp prog Q ⟨#[u0,zL (some ⟨g,0,none⟩) n c,u2,u3,u4,u5,u6,u7,zL Aq nq cq,u9,gF,gG,gH,gI,gJ,zI i,gL,gM,gN,gO,gP,gQ,gR,gT,gV,gW,gX,gY,gZ,i6,i7,i8,ia,ib,ic,ie,ig,ii,ij,ik,il,im,io,ip,iq,ir,iu,iv,iw,iy,iz,iA,iB,iC,iD,iE,iF,iG,iH,iI,iJ,iK,iL,iM,iN,iO,iP,iQ,iR,iS,iT,iU,iV,iW,iX,iY,iZ,j0,j1,j2,j9,jb,jd,je,jf,jg,jh,ji,jj,jk,jl,jm,jn,jo,jp,jq,jr,js,jt,ju,bB,bD,bE,bF,bG,bH,bI,bJ,bK,bL,bM,bN,bO,bP,bQ,bT,bU,bV,bW,bX,bY,bZ,ca,cj,cn,cx,cy],[]⟩ V1:=by
 simp only[Tryz.f74,Zp,z0w] at hops
 simp at hops
 subst hops;have HQ:=hd_ hQ;have HQU:=hd_ hq;have hda:zB V1 (V1.alloc (zC #[zS p,zI 0,zS f] 84)).drew:=(z0t (Zb _ _) _).drew;have HDA:=hd_ hda;have HSZ:Hid (B2<=(V1.alloc (zC #[zS p,zI 0,zS f] 84)).drew.heap.size):=hd_ (Zf hB2 hda.size);have HN:Hid (∀ j u,[zS p,zI 0,zS f][j]? = some u->(V1.alloc (zC #[zS p,zI 0,zS f] 84)).drew.cell? ((⟨V1.heap.size,0,none⟩:Addr).add j)=some u):=hd_ (zo7 V1 _ _);clear hQ hq hda hB2 hg;refine wp_region_noPanic ?_;go_region_law (first
  | (refine zo6 (base:=B2) rfl rfl z6g (HQU.kw HDA) (by simp [Act.eval,Act.put];done) (ad:=⟨V1.heap.size,0,none⟩) (m:=1) (c:=1) (by simp [Act.eval,Act.put];done) (news:=[zS p,zI 0,zS f]) rfl HN (by simp [Value.oneCell']) (by omega) (by omega) (by unfold maxLen;omega) HSZ ?_;intro A6 c6 w6 hO6 hG6 hw6))
 all_goals exact NoPanic.normal (HQ _ _ _ _ _ _ _ _ _ _ _ _ _ _ _ _ _ (hd_ ⟨hO6,⟨_,HDA,hG6⟩,hw6.imp id (fun e=>⟨_,e,HDA.size⟩)⟩))
end
