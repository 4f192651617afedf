/- A part. -/
import Derived.Test.YtlnjaagijaadmaaGreatDoorMvw26
import Derived.Test.YtlnjaagijaadmaaGreatDoorMxGaF
import Derived.Lib.AppendZeros
set_option linter.unusedVariables false
set_option linter.unusedSimpArgs false
set_option maxHeartbeats 8000000
set_option maxRecDepth 100000
namespace Go.Proofs.YtlnjaagijaadmaaGreatDoor
open Go.Proofs.Tryz
open Go.RowKit
theorem zlh {l r:Pat}(h:zbw l r=0):z8w l=0/\z8w r=0/\zbq l=zbq r/\l.kr=r.kr:=by
 unfold zbw at h;by_cases a:z8w l=0
 ·by_cases b:z8w r=0
  ·by_cases c:zbq l≠zbq r\/l.kr≠r.kr
   ·rw[if_neg (fun h=>h a),if_neg (fun h=>h b),if_pos c] at h;exact absurd h (by decide)
   ·exact⟨a,b,Decidable.byContradiction fun h=>c (.inl h),Decidable.byContradiction fun h=>c (.inr h)⟩
  ·rw[if_neg (fun h=>h a),if_pos b] at h;exact absurd h (by decide)
 ·rw[if_pos a] at h;exact absurd h (by decide)
def zli (l r m:Pat):List zA:=if r.kr then m.kp.drop l.kp.length else []
theorem zlj {l r m:Pat}(hr:zbw l r=0)(hw:Wi m l)(hm:z8w m=0):zlf r (zi7 l.kp m.kp) (zli l r m) (r.kr && m.kr)/\zl6 l m=zle r (zi7 l.kp m.kp) (zli l r m) (r.kr && m.kr):=by
 obtain⟨h1,h2,h3,h4⟩:=zlh hr;have hmo:=zid.1 hm;refine⟨⟨h2,(zi8 _ _).trans h3,zi9 _ _ hw.le hmo.ok (fun k h _=>hw.all k h),fun z hz=>?_,fun e=>?_,fun e=>?_⟩,?_⟩
 ·unfold zli at hz;split at hz
  ·exact hmo.ok z (ZW hz)
  ·cases hz
 ·unfold zli;rw[if_pos e,e];rcases zhp hw with⟨a,b | b⟩ | ⟨a,-,-⟩
  ·right;rw[b];rfl
  ·left;intro h0;have:=congrArg List.length h0;rw[Zu] at this;simp at this;omega
  ·rw[h4,e] at a;cases a
 ·unfold zli;rw[e];exact⟨rfl,rfl⟩
 ·unfold zl6 zle zli;rw[h4];cases r.kr <;> rfl
theorem zlk (l r m:Pat):(zli l r m).length=if r.kr then m.kp.length - l.kp.length else 0:=by unfold zli;split <;> simp
def CarW (w:zW)(l r m:Pat)(e:Ending)(w':zW):Prop:=zB w w'/\((zig l r m/\e=.returned (.tuple #[.agg #[zL none 0 0,.bool false],zI 43])) \/
 (¬ zig l r m/\∃ A' c',e=.returned (.tuple #[.agg #[zL A' (zif l r m).kp.length c',.bool (zif l r m).kr],zI 0])/\(∀ x,(zL A' (zif l r m).kp.length c').ownBlock=some x->w.heap.size<=x)/\zbx w' (zL A' (zif l r m).kp.length c') (zif l r m)))
theorem carryW (l r m:Pat)(A B C:zP)(a b c:Nat)(w:zW)(hl:zbx w (zL A l.kp.length a) l)(hm:zbx w (zL B m.kp.length b) m)(hr:zbx w (zL C r.kp.length c) r)(hru:zbw l r=0)(hwi:Wi m l)(hme:z8w m=0)(hsz:∀ x∈(zif l r m).kp,x.size<=30000000):
  Calls prog 143 #[.agg #[zL A l.kp.length a,.bool l.kr],.agg #[zL B m.kp.length b,.bool m.kr],.agg #[zL C r.kp.length c,.bool r.kr]] w (CarW w l r m):=by
 obtain⟨W1,hW1⟩:∃ W,W=(((w.alloc (zC #[zL A l.kp.length a,.bool l.kr] 56)).alloc (zC #[zL B m.kp.length b,.bool m.kr] 56)).alloc (zC #[zL C r.kp.length c,.bool r.kr] 56)).alloc (zC #[zL none 0 0,.bool false] 56):=⟨_,rfl⟩;have hA:zB w W1:=by rw[hW1];exact (((zR).alloc (by simp) _).alloc (by simp;omega) _).alloc (by simp;omega) _
 have h2:zch W1 w.heap.size (zL A l.kp.length a) l.kr:=by rw[hW1];exact (((z0l w [zL A l.kp.length a,.bool l.kr] 56).alloc _).alloc _).alloc _
 have h3:zch W1 (w.heap.size+1) (zL B m.kp.length b) m.kr:=by
  rw[hW1];have:=z0l (w.alloc (zC #[zL A l.kp.length a,.bool l.kr] 56)) [zL B m.kp.length b,.bool m.kr] 56;simp only[Zl] at this
  exact (this.alloc _).alloc _
 have h4:zch W1 (w.heap.size+1+1) (zL C r.kp.length c) r.kr:=by
  rw[hW1];have:=z0l ((w.alloc (zC #[zL A l.kp.length a,.bool l.kr] 56)).alloc (zC #[zL B m.kp.length b,.bool m.kr] 56)) [zL C r.kp.length c,.bool r.kr] 56;simp only[Zl] at this
  exact this.alloc _
 have h5:zch W1 (w.heap.size+1+1+1) (zL none 0 0) false:=by
  rw[hW1];have:=z0l (((w.alloc (zC #[zL A l.kp.length a,.bool l.kr] 56)).alloc (zC #[zL B m.kp.length b,.bool m.kr] 56)).alloc (zC #[zL C r.kp.length c,.bool r.kr] 56)) [zL none 0 0,.bool false] 56;simp only[Zl] at this
  exact this
 obtain⟨hle,hre,-,-⟩:=zlh hru;obtain⟨hok,hbs⟩:=zlj hru hwi hme;have hlm:=zcc hme;have HBD:=hd_ (fun X (hX:zB w X)=>bindW l m A B a b X (hl.kw hX) (hm.kw hX) hle hme hwi);have HSB:=hd_ (fun X (hX:zB w X) D d (bs:List PatM) (h1:HolesIn X (zL D bs.length d) bs) (h2:bs.map (·.1)=zl6 l m)=>substW r _ _ _ C c D d bs X (hr.kw hX) hok h1 (h2.trans hbs) (by rw[zlk];split <;> omega))
 have HLN:Hid (r.kp.length+(zli l r m).length=(zif l r m).kp.length):=hd_ (by unfold zif zli;rw[Zc,zia])
 have HLI:Hid (zig l r m↔(12<r.kp.length+(zli l r m).length/\r.kr=true)):=hd_ (by
  rw[zlk];unfold zig
  constructor
  ·rintro⟨e1,e2⟩;rw[if_pos e1];exact⟨e2,e1⟩
  ·rintro⟨e2,e1⟩;rw[if_pos e1] at e2;exact⟨e1,e2⟩)
 have HSZ:=hd_ hsz;have HW1:=hd_ hW1;have H:=hd_ (Zi hA (Zi h2 (Zi h3 (Zi h4 h5))));clear hl hm hr hru hwi hme hsz hle hre hok hbs hlm hW1 hA h2 h3 h4 h5;go_enter func143,ntmps143;go_upto_region 1 with fail;rw[<- HW1.out];have x0:=H.out.2.1.c0;have x1:=H.out.2.1.c1;have y0:=H.out.2.2.1.c0;have y1:=H.out.2.2.1.c1;have HC1:=hd_ (HBD W1 H.1);clear HBD;go_wp2_with fail;refine HC1.mono ?_;rintro e w2 ⟨hb,v,bs,rfl,hmp,hH⟩;obtain⟨D,d,rfl,-⟩:=id hH.1;have HB:=hd_ (z0r H.1 hb);have HC2:=hd_ (HSB w2 HB D d bs hH hmp);have h4:=H.out.2.2.2.1.low hb;have HZ:=hd_ (H.2.2.2.2.low hb);clear x0 x1 y0 y1 hb hH hmp HSB HC1;have x0:=h4.c0;have x1:=h4.c1;clear h4;go_wp2_with fail;refine HC2.mono ?_;rintro e w3 ⟨hb,⟨h12,hrr,rfl⟩ | ⟨h12,A6,c6,rfl,hF,hS⟩⟩
 ·have HLM:=hd_ (HLI.2 ⟨h12,hrr⟩);have HB3:=hd_ (z0r HB hb);have hZ3:=HZ.out.low hb;clear hb h12 hrr x0 x1 HC2;have hX4:zB w3 (w3.alloc (zC #[zL none 0 0,.bool false] 56)):=zR;have HZ4:=hd_ (hZ3.low hX4);have HB4:=hd_ (z0r HB3 hX4);clear hX4 hZ3;go_upto_region 3 with fail;generalize w3.alloc (zC #[zL none 0 0,.bool false] 56)=W4 at HZ4 HB4 |-;obtain⟨f0,f1,c0,c1⟩:=HZ4.out.all;go_wp2_with fail;have hE:=HZ4.out.put (zL none 0 0) false;have hb:=zci HB4.out (g:=w.heap.size+1+1+1) (by omega) (zL none 0 0) (.bool false)
  generalize (W4.setCell ⟨w.heap.size+1+1+1,0,none⟩ (zL none 0 0)).setCell ⟨w.heap.size+1+1+1,1,none⟩ (.bool false)=W5 at hE hb |-;clear f0 f1 c0 c1;obtain⟨-,-,c0,c1⟩:=hE.all;exact bodyPost_ret (v:=.tuple #[.agg #[zL none 0 0,.bool false],zI 43]) (by simp [results,results143,go_sem,c0,c1]) rfl ⟨hb,.inl ⟨HLM,rfl⟩⟩
 ·rw[HLN.out] at hS hF h12 |-;have HLM:Hid (¬ zig l r m):=hd_ (fun h=>by have h1:=HLI.out.1 h;rw[HLN.out] at h1;have:=h12 h1.2;omega)
  have HF:=hd_ hF;clear hF;have HB3:=hd_ (z0r HB hb);have hZ3:=HZ.out.low hb;have hS:z20 w3 (zL A6 (zif l r m).kp.length c6) (zif l r m).kp:=hS;have HS:=hd_ hS;have HRS:Hid ((r.kr && m.kr)=(zif l r m).kr):=hd_ rfl;rw[HRS.out];generalize hP:zif l r m=P at HLN HSZ hS HF HS HRS HLM |-;have HPP:=hd_ hP;clear hb hS h12 hP x0 x1 HC2;have hX4:zB w3 (w3.alloc (zC #[zL A6 P.kp.length c6,.bool P.kr] 56)):=zR;have HZ4:=hd_ (hZ3.low hX4);have HB4:=hd_ (z0r HB3 hX4);have HS4:=hd_ (HS.kw hX4);have HN:Hid (zch (w3.alloc (zC #[zL A6 P.kp.length c6,.bool P.kr] 56)) w3.heap.size (zL A6 P.kp.length c6) P.kr):=hd_ (z0l w3 [zL A6 P.kp.length c6,.bool P.kr] 56);clear hX4 hZ3;go_upto_region 3 with fail;generalize w3.alloc (zC #[zL A6 P.kp.length c6,.bool P.kr] 56)=W4 at HZ4 HB4 HS4 HN |-;have x0:=HN.out.c0;have x1:=HN.out.c1;obtain⟨f0,f1,c0,c1⟩:=HZ4.out.all;have hne:(zL A6 P.kp.length c6).ownBlock≠some (w.heap.size+1+1+1):=fun e=>by have h1:=HF.out _ e;have h2:=Blk.lt HZ.out;omega
  go_wp2_with fail;have hE:=HZ4.out.put (zL A6 P.kp.length c6) P.kr;have hb:=zci HB4.out (g:=w.heap.size+1+1+1) (by omega) (zL A6 P.kp.length c6) (.bool P.kr)
  have hK:z20 ((W4.setCell ⟨w.heap.size+1+1+1,0,none⟩ (zL A6 P.kp.length c6)).setCell ⟨w.heap.size+1+1+1,1,none⟩ (.bool P.kr)) (zL A6 P.kp.length c6) P.kp:=Row.set_far (Row.set_far HS4 hne) hne;generalize (W4.setCell ⟨w.heap.size+1+1+1,0,none⟩ (zL A6 P.kp.length c6)).setCell ⟨w.heap.size+1+1+1,1,none⟩ (.bool P.kr)=W5 at hE hb hK |-;clear f0 f1 c0 c1;obtain⟨-,-,c0,c1⟩:=hE.all;have hp2:=HPP.out;subst hp2;exact bodyPost_ret (v:=.tuple #[.agg #[zL A6 (zif l r m).kp.length c6,.bool (zif l r m).kr],zI 0]) (by simp [results,results143,go_sem,c0,c1]) rfl ⟨hb,.inr ⟨HLM,A6,c6,rfl,fun x hx=>by have h1:=HF.out x hx;have h2:=HB.out.size;omega,hK,HSZ⟩⟩
def NarW (w:zW)(l r h:Pat)(e:Ending)(w':zW):Prop:=zB w w'/\((zc6 l h=none/\e=.returned (.tuple #[.agg #[.bool false,zL none 0 0,.bool false,zL none 0 0,.bool false],.bool false,zI 0]))\/(∃ m,zc6 l h=some m/\((zig l r m/\e=.returned (.tuple #[.agg #[.bool false,zL none 0 0,.bool false,zL none 0 0,.bool false],.bool false,zI 43])) \/
 (¬ zig l r m/\∃ A' c' C' d',e=.returned (.tuple #[.agg #[.bool false,zL A' m.kp.length c',.bool m.kr,zL C' (zif l r m).kp.length d',.bool (zif l r m).kr],.bool true,zI 0])/\zbx w' (zL A' m.kp.length c') m/\zbx w' (zL C' (zif l r m).kp.length d') (zif l r m)/\∀ x,(zL C' (zif l r m).kp.length d').ownBlock=some x->w.heap.size<=x))))
theorem zll {w W:zW}{g:Nat}{v0 v1 v2 v3 v4:zV}(hB:zB w W)(hZ:Blk W g 62 [v0,v1,v2,v3,v4])(hg:w.heap.size<=g)(u0 u1 u2 u3 u4:zV):
  zB w (((((W.setCell ⟨g,0,none⟩ u0).setCell ⟨g,1,none⟩ u1).setCell ⟨g,2,none⟩ u2).setCell ⟨g,3,none⟩ u3).setCell ⟨g,4,none⟩ u4)/\Blk (((((W.setCell ⟨g,0,none⟩ u0).setCell ⟨g,1,none⟩ u1).setCell ⟨g,2,none⟩ u2).setCell ⟨g,3,none⟩ u3).setCell ⟨g,4,none⟩ u4) g 62 [u0,u1,u2,u3,u4]:=
 ⟨((((hB.setCell (p:=⟨g,0,none⟩) hg u0).setCell (p:=⟨g,1,none⟩) hg u1).setCell (p:=⟨g,2,none⟩) hg u2).setCell (p:=⟨g,3,none⟩) hg u3).setCell (p:=⟨g,4,none⟩) hg u4,((((hZ.set_ 0 u0).set_ 1 u1).set_ 2 u2).set_ 3 u3).set_ 4 u4⟩
theorem narrowW (ex:Bool)(l r h:Pat)(A B C:zP)(a b c:Nat)(w:zW)(hl:zbx w (zL A l.kp.length a) l)(hh:zbx w (zL B h.kp.length b) h)(hr:zbx w (zL C r.kp.length c) r)(hru:zbw l r=0)(hhe:z8w h=0)(hsz:∀ m,zc6 l h=some m->∀ x∈(zif l r m).kp,x.size<=30000000):
  Calls prog 96 #[.agg #[.bool ex,zL A l.kp.length a,.bool l.kr,zL C r.kp.length c,.bool r.kr],.agg #[zL B h.kp.length b,.bool h.kr]] w (NarW w l r h):=by
 obtain⟨W1,hW1⟩:∃ W,W=((w.alloc (zC #[.bool ex,zL A l.kp.length a,.bool l.kr,zL C r.kp.length c,.bool r.kr] 62)).alloc (zC #[zL B h.kp.length b,.bool h.kr] 56)).alloc (zC #[.bool false,zL none 0 0,.bool false,zL none 0 0,.bool false] 62):=⟨_,rfl⟩;have hA:zB w W1:=by rw[hW1];exact ((zR).alloc (by simp) _).alloc (by simp;omega) _
 have h2:Blk W1 w.heap.size 62 [.bool ex,zL A l.kp.length a,.bool l.kr,zL C r.kp.length c,.bool r.kr]:=by rw[hW1];exact ((z0l w _ _).alloc _).alloc _
 have h3:zch W1 (w.heap.size+1) (zL B h.kp.length b) h.kr:=by
  rw[hW1];have:=z0l (w.alloc (zC #[.bool ex,zL A l.kp.length a,.bool l.kr,zL C r.kp.length c,.bool r.kr] 62)) [zL B h.kp.length b,.bool h.kr] 56;simp only[Zl] at this
  exact this.alloc _
 have h4:Blk W1 (w.heap.size+1+1) 62 [.bool false,zL none 0 0,.bool false,zL none 0 0,.bool false]:=by
  rw[hW1];have:=z0l ((w.alloc (zC #[.bool ex,zL A l.kp.length a,.bool l.kr,zL C r.kp.length c,.bool r.kr] 62)).alloc (zC #[zL B h.kp.length b,.bool h.kr] 56)) [.bool false,zL none 0 0,.bool false,zL none 0 0,.bool false] 62;simp only[Zl] at this
  exact this
 have HRC:=hd_ (fun X (hX:zB w X)=>zby ex l r A C a c X (hl.kw hX) (hr.kw hX));rw[hru] at HRC;have HPC:=hd_ (fun X (hX:zB w X)=>z99 h B b X (hh.kw hX).1 hh.small);rw[hhe] at HPC;have HME:=hd_ (fun X (hX:zB w X)=>zck l h A B a b X (hl.kw hX) (hh.kw hX));have HCA:=hd_ (fun m (hme:zc6 l h=some m) X (hX:zB w X) B' b' (hm:zbx X (zL B' m.kp.length b') m)=>carryW l r m A B' C a b' c X (hl.kw hX) hm (hr.kw hX) hru (zhw hme).1 (zie hme) (hsz m hme));have HW1:=hd_ hW1;have H:=hd_ (Zi hA (Zi h2 (Zi h3 h4)));clear hl hh hr hru hhe hsz hW1 hA h2 h3 h4;go_enter func96,ntmps96;go_upto_region 1 with fail;rw[<- HW1.out];obtain⟨x0,x1,x2,x3,x4⟩:=(⟨H.out.2.1.cell 0,H.out.2.1.cell 1,H.out.2.1.cell 2,H.out.2.1.cell 3,H.out.2.1.cell 4⟩:W1.cell? ⟨w.heap.size,0,none⟩=some (.bool ex)/\W1.cell? ⟨w.heap.size,1,none⟩=some (.slice A l.kp.length a)/\W1.cell? ⟨w.heap.size,2,none⟩=some (.bool l.kr)/\W1.cell? ⟨w.heap.size,3,none⟩=some (.slice C r.kp.length c)/\W1.cell? ⟨w.heap.size,4,none⟩=some (.bool r.kr));have HC1:=hd_ (HRC W1 H.1);clear HRC;go_wp2_with fail;refine HC1.mono ?_;rintro e w2 ⟨rfl,hb⟩;have HB:=hd_ (z0r H.1 hb);have HG:=hd_ (Zi (H.out.2.1.kw hb H.out.2.1.lt) (Zi (H.out.2.2.1.low hb) (H.out.2.2.2.kw hb H.out.2.2.2.lt)));clear hb x0 x1 x2 x3 x4 HC1 H;have y0:=HG.out.2.1.c0;have y1:=HG.out.2.1.c1;have HC1:=hd_ (HPC w2 HB);clear HPC;go_wp2_with fail;refine HC1.mono ?_;rintro e w3 ⟨rfl,hb⟩;have HB:=hd_ (z0r HB hb);have HG:=hd_ (Zi (HG.out.1.kw hb HG.out.1.lt) (Zi (HG.out.2.1.low hb) (HG.out.2.2.kw hb HG.out.2.2.lt)));clear hb y0 y1 HC1;have y0:=HG.out.2.1.c0;have y1:=HG.out.2.1.c1;obtain⟨x1,x2⟩:=(⟨HG.out.1.cell 1,HG.out.1.cell 2⟩:w3.cell? ⟨w.heap.size,1,none⟩=some (.slice A l.kp.length a)/\w3.cell? ⟨w.heap.size,2,none⟩=some (.bool l.kr));have hl3:w.heap.size+1+1<w3.heap.size:=HG.out.2.2.lt;have HC1:=hd_ (HME w3 HB)
 clear HME;go_wp2_with fail;refine HC1.mono ?_;rintro e w4 ⟨hb,⟨hx,rfl⟩ | ⟨m,A6,c6,hmm,rfl,hfr,hpm⟩⟩
 ·have HX:=hd_ hx;have HB4:=hd_ (z0r HB hb);have HZ:=hd_ (HG.2.2.kw hb HG.2.2.lt);clear hb hx y0 y1 x1 x2 HC1 hl3 HG HB HCA;have hX4:zB w4 (w4.alloc (zC #[zL none 0 0,.bool false] 56)):=zR;have HB5:=hd_ (z0r HB4 hX4);have HZ5:=hd_ (HZ.kw hX4 HZ.lt);clear hX4 HB4 HZ;go_upto_region 8 with fail;generalize w4.alloc (zC #[zL none 0 0,.bool false] 56)=W7 at HB5 HZ5 |-;have hlt7:w.heap.size+1+1<W7.heap.size:=HZ5.out.lt;obtain⟨v0,v1,v2,v3,v4⟩:=(⟨HZ5.out.frozen 0,HZ5.out.frozen 1,HZ5.out.frozen 2,HZ5.out.frozen 3,HZ5.out.frozen 4⟩:W7.frozen? ⟨w.heap.size+1+1,0,none⟩=false/\W7.frozen? ⟨w.heap.size+1+1,1,none⟩=false/\W7.frozen? ⟨w.heap.size+1+1,2,none⟩=false/\W7.frozen? ⟨w.heap.size+1+1,3,none⟩=false/\W7.frozen? ⟨w.heap.size+1+1,4,none⟩=false);obtain⟨u0,u1,u2,u3,u4⟩:=(⟨HZ5.out.cell 0,HZ5.out.cell 1,HZ5.out.cell 2,HZ5.out.cell 3,HZ5.out.cell 4⟩:W7.cell? ⟨w.heap.size+1+1,0,none⟩=some (.bool false)/\W7.cell? ⟨w.heap.size+1+1,1,none⟩=some (.slice none 0 0)/\W7.cell? ⟨w.heap.size+1+1,2,none⟩=some (.bool false)/\W7.cell? ⟨w.heap.size+1+1,3,none⟩=some (.slice none 0 0)/\W7.cell? ⟨w.heap.size+1+1,4,none⟩=some (.bool false));go_wp2_with fail;obtain⟨hb,hE⟩:=zll HB5.out HZ5.out (by omega) (.bool false) (zL none 0 0) (.bool false) (zL none 0 0) (.bool false)
  generalize ((((W7.setCell ⟨w.heap.size+1+1,0,none⟩ (.bool false)).setCell ⟨w.heap.size+1+1,1,none⟩ (zL none 0 0)).setCell ⟨w.heap.size+1+1,2,none⟩ (.bool false)).setCell ⟨w.heap.size+1+1,3,none⟩ (zL none 0 0)).setCell ⟨w.heap.size+1+1,4,none⟩ (.bool false)=W8 at hE hb |-;have e0:=hE.cell 0;have e1:=hE.cell 1;have e2:=hE.cell 2;have e3:=hE.cell 3;have e4:=hE.cell 4;exact bodyPost_ret (v:=.tuple #[.agg #[.bool false,zL none 0 0,.bool false,zL none 0 0,.bool false],.bool false,zI 0]) (by simp [results,results96,go_sem,e0,e1,e2,e3,e4]) rfl ⟨hb,.inl ⟨HX,rfl⟩⟩
 have HMM:=hd_ hmm;have HCA:=hd_ (HCA m hmm);have HB4:=hd_ (z0r HB hb);have HG:=hd_ (Zi (HG.out.1.kw hb HG.out.1.lt) (HG.out.2.2.kw hb HG.out.2.2.lt));have HF4:Hid (∀ x,(zL A6 m.kp.length c6).ownBlock=some x->w.heap.size+1+1<x):=hd_ (fun x hx=>by have h1:=hfr x hx;omega)
 have HPM:=hd_ hpm;clear hb y0 y1 x1 x2 HC1 hmm hfr hpm hl3;have hX4:zB w4 (w4.alloc (zC #[zL A6 m.kp.length c6,.bool m.kr] 56)):=zR;have HB5:=hd_ (z0r HB4 hX4);have HG5:=hd_ (Zi (HG.out.1.kw hX4 HG.out.1.lt) (HG.out.2.kw hX4 HG.out.2.lt));have HPM5:=hd_ (HPM.kw hX4);have HN9:Hid (zch (w4.alloc (zC #[zL A6 m.kp.length c6,.bool m.kr] 56)) w4.heap.size (zL A6 m.kp.length c6) m.kr):=hd_ (z0l w4 [zL A6 m.kp.length c6,.bool m.kr] 56);clear hX4;go_upto_region 8 with fail;generalize w4.alloc (zC #[zL A6 m.kp.length c6,.bool m.kr] 56)=W5 at HB5 HG5 HPM5 HN9 |-;generalize w4.heap.size=g9 at HN9 |-;obtain⟨x1,x2,x3,x4⟩:=(⟨HG5.out.1.cell 1,HG5.out.1.cell 2,HG5.out.1.cell 3,HG5.out.1.cell 4⟩:W5.cell? ⟨w.heap.size,1,none⟩=some (.slice A l.kp.length a)/\W5.cell? ⟨w.heap.size,2,none⟩=some (.bool l.kr)/\W5.cell? ⟨w.heap.size,3,none⟩=some (.slice C r.kp.length c)/\W5.cell? ⟨w.heap.size,4,none⟩=some (.bool r.kr));have y0:=HN9.out.c0;have y1:=HN9.out.c1;have HC1:=hd_ (HCA W5 HB5 A6 c6 HPM5);have hl5:w.heap.size+1+1<W5.heap.size:=HG5.out.2.lt;clear HCA HG HB HB4 HPM;go_wp2_with fail;refine HC1.mono ?_;rintro e w6 ⟨hb,⟨hlm,rfl⟩ | ⟨hlm,A7,c7,rfl,hfr,hpr⟩⟩
 ·have HX:=hd_ hlm;have HB6:=hd_ (z0r HB5 hb);have HZ6:=hd_ (HG5.2.kw hb HG5.2.lt);clear hb hlm x1 x2 x3 x4 y0 y1 HC1 HG5 HB5 HPM5 HN9;have hX6:zB w6 (w6.alloc (zC #[zL none 0 0,.bool false] 56)):=zR;have HB7:=hd_ (z0r HB6 hX6);have HZ7:=hd_ (HZ6.kw hX6 HZ6.lt);clear hX6 HB6 HZ6;go_upto_region 11 with fail;generalize w6.alloc (zC #[zL none 0 0,.bool false] 56)=W7 at HB7 HZ7 |-;obtain⟨v0,v1,v2,v3,v4⟩:=(⟨HZ7.out.frozen 0,HZ7.out.frozen 1,HZ7.out.frozen 2,HZ7.out.frozen 3,HZ7.out.frozen 4⟩:W7.frozen? ⟨w.heap.size+1+1,0,none⟩=false/\W7.frozen? ⟨w.heap.size+1+1,1,none⟩=false/\W7.frozen? ⟨w.heap.size+1+1,2,none⟩=false/\W7.frozen? ⟨w.heap.size+1+1,3,none⟩=false/\W7.frozen? ⟨w.heap.size+1+1,4,none⟩=false);obtain⟨u0,u1,u2,u3,u4⟩:=(⟨HZ7.out.cell 0,HZ7.out.cell 1,HZ7.out.cell 2,HZ7.out.cell 3,HZ7.out.cell 4⟩:W7.cell? ⟨w.heap.size+1+1,0,none⟩=some (.bool false)/\W7.cell? ⟨w.heap.size+1+1,1,none⟩=some (.slice none 0 0)/\W7.cell? ⟨w.heap.size+1+1,2,none⟩=some (.bool false)/\W7.cell? ⟨w.heap.size+1+1,3,none⟩=some (.slice none 0 0)/\W7.cell? ⟨w.heap.size+1+1,4,none⟩=some (.bool false));go_wp2_with fail;obtain⟨hb,hE⟩:=zll HB7.out HZ7.out (by omega) (.bool false) (zL none 0 0) (.bool false) (zL none 0 0) (.bool false)
  generalize ((((W7.setCell ⟨w.heap.size+1+1,0,none⟩ (.bool false)).setCell ⟨w.heap.size+1+1,1,none⟩ (zL none 0 0)).setCell ⟨w.heap.size+1+1,2,none⟩ (.bool false)).setCell ⟨w.heap.size+1+1,3,none⟩ (zL none 0 0)).setCell ⟨w.heap.size+1+1,4,none⟩ (.bool false)=W8 at hE hb |-;have e0:=hE.cell 0;have e1:=hE.cell 1;have e2:=hE.cell 2;have e3:=hE.cell 3;have e4:=hE.cell 4;exact bodyPost_ret (v:=.tuple #[.agg #[.bool false,zL none 0 0,.bool false,zL none 0 0,.bool false],.bool false,zI 43]) (by simp [results,results96,go_sem,e0,e1,e2,e3,e4]) rfl ⟨hb,.inr ⟨m,HMM,.inl ⟨HX,rfl⟩⟩⟩
 have HLM:=hd_ hlm;obtain⟨P,hP⟩:∃ P,zif l r m=P:=⟨_,rfl⟩;have HPP:=hd_ hP;rw[hP] at hfr hpr |-;clear hlm hP;have HB6:=hd_ (z0r HB5 hb);have HZ6:=hd_ (HG5.2.kw hb HG5.2.lt);have HPM6:=hd_ (HPM5.kw hb);have HN9:=hd_ (HN9.low hb);have HF7:Hid (∀ x,(zL A7 P.kp.length c7).ownBlock=some x->w.heap.size+1+1<x):=hd_ (fun x hx=>by have h1:=hfr x hx;omega)
 have HPR:=hd_ hpr;clear hb hfr hpr x1 x2 x3 x4 y0 y1 HC1 HG5 HB5 HPM5;have hX6:zB w6 (w6.alloc (zC #[zL A7 P.kp.length c7,.bool P.kr] 56)):=zR;have HB7:=hd_ (z0r HB6 hX6);have HZ7:=hd_ (HZ6.kw hX6 HZ6.lt);have HPM7:=hd_ (HPM6.kw hX6);have HPR7:=hd_ (HPR.kw hX6);have HN97:=hd_ (HN9.low hX6);have HN11:Hid (zch (w6.alloc (zC #[zL A7 P.kp.length c7,.bool P.kr] 56)) w6.heap.size (zL A7 P.kp.length c7) P.kr):=hd_ (z0l w6 [zL A7 P.kp.length c7,.bool P.kr] 56);clear hX6;go_upto_region 11 with fail;generalize w6.alloc (zC #[zL A7 P.kp.length c7,.bool P.kr] 56)=W7 at HB7 HZ7 HPM7 HPR7 HN97 HN11 |-;generalize w6.heap.size=g11 at HN11 |-;clear HB6 HZ6 HPM6 HPR HN9;have y0:=HN97.out.c0;have y1:=HN97.out.c1;have z0:=HN11.out.c0;have z1:=HN11.out.c1;obtain⟨u0,u1,u2,u3,u4⟩:=(⟨HZ7.out.cell 0,HZ7.out.cell 1,HZ7.out.cell 2,HZ7.out.cell 3,HZ7.out.cell 4⟩:W7.cell? ⟨w.heap.size+1+1,0,none⟩=some (.bool false)/\W7.cell? ⟨w.heap.size+1+1,1,none⟩=some (.slice none 0 0)/\W7.cell? ⟨w.heap.size+1+1,2,none⟩=some (.bool false)/\W7.cell? ⟨w.heap.size+1+1,3,none⟩=some (.slice none 0 0)/\W7.cell? ⟨w.heap.size+1+1,4,none⟩=some (.bool false));obtain⟨v0,v1,v2,v3,v4⟩:=(⟨HZ7.out.frozen 0,HZ7.out.frozen 1,HZ7.out.frozen 2,HZ7.out.frozen 3,HZ7.out.frozen 4⟩:W7.frozen? ⟨w.heap.size+1+1,0,none⟩=false/\W7.frozen? ⟨w.heap.size+1+1,1,none⟩=false/\W7.frozen? ⟨w.heap.size+1+1,2,none⟩=false/\W7.frozen? ⟨w.heap.size+1+1,3,none⟩=false/\W7.frozen? ⟨w.heap.size+1+1,4,none⟩=false);go_wp2_with fail;have hE:=((((HZ7.out.set_ 0 (.bool false)).set_ 1 (zL A6 m.kp.length c6)).set_ 2 (.bool m.kr)).set_ 3 (zL A7 P.kp.length c7)).set_ 4 (.bool P.kr);have hb:=((((HB7.out.setCell (p:=⟨w.heap.size+1+1,0,none⟩) (by simp;omega) (.bool false)).setCell (p:=⟨w.heap.size+1+1,1,none⟩) (by simp;omega) (zL A6 m.kp.length c6)).setCell (p:=⟨w.heap.size+1+1,2,none⟩) (by simp;omega) (.bool m.kr)).setCell (p:=⟨w.heap.size+1+1,3,none⟩) (by simp;omega) (zL A7 P.kp.length c7)).setCell (p:=⟨w.heap.size+1+1,4,none⟩) (by simp;omega) (.bool P.kr)
 have n6:(zL A6 m.kp.length c6).ownBlock≠some (w.heap.size+1+1):=fun e=>by have:=HF4.out _ e;omega
 have n7:(zL A7 P.kp.length c7).ownBlock≠some (w.heap.size+1+1):=fun e=>by have:=HF7.out _ e;omega
 have hP:zbx (((((W7.setCell ⟨w.heap.size+1+1,0,none⟩ (.bool false)).setCell ⟨w.heap.size+1+1,1,none⟩ (zL A6 m.kp.length c6)).setCell ⟨w.heap.size+1+1,2,none⟩ (.bool m.kr)).setCell ⟨w.heap.size+1+1,3,none⟩ (zL A7 P.kp.length c7)).setCell ⟨w.heap.size+1+1,4,none⟩ (.bool P.kr)) (zL A6 m.kp.length c6) m:=⟨Row.set_far (Row.set_far (Row.set_far (Row.set_far (Row.set_far HPM7.1 n6) n6) n6) n6) n6,HPM7.2⟩;have hQ:zbx (((((W7.setCell ⟨w.heap.size+1+1,0,none⟩ (.bool false)).setCell ⟨w.heap.size+1+1,1,none⟩ (zL A6 m.kp.length c6)).setCell ⟨w.heap.size+1+1,2,none⟩ (.bool m.kr)).setCell ⟨w.heap.size+1+1,3,none⟩ (zL A7 P.kp.length c7)).setCell ⟨w.heap.size+1+1,4,none⟩ (.bool P.kr)) (zL A7 P.kp.length c7) P:=⟨Row.set_far (Row.set_far (Row.set_far (Row.set_far (Row.set_far HPR7.1 n7) n7) n7) n7) n7,HPR7.2⟩;generalize (((((W7.setCell ⟨w.heap.size+1+1,0,none⟩ (.bool false)).setCell ⟨w.heap.size+1+1,1,none⟩ (zL A6 m.kp.length c6)).setCell ⟨w.heap.size+1+1,2,none⟩ (.bool m.kr)).setCell ⟨w.heap.size+1+1,3,none⟩ (zL A7 P.kp.length c7)).setCell ⟨w.heap.size+1+1,4,none⟩ (.bool P.kr))=W8 at hE hb hP hQ |-;have e0:=hE.cell 0;have e1:=hE.cell 1;have e2:=hE.cell 2;have e3:=hE.cell 3;have e4:=hE.cell 4;exact bodyPost_ret (v:=.tuple #[.agg #[.bool false,zL A6 m.kp.length c6,.bool m.kr,zL A7 P.kp.length c7,.bool P.kr],.bool true,zI 0]) (by simp [results,results96,go_sem,e0,e1,e2,e3,e4]) rfl ⟨hb,.inr ⟨m,HMM,.inr (by rw[HPP.out];exact⟨HLM,A6,c6,A7,c7,rfl,hP,hQ,fun x hx=>by have:=HF7.out x hx;omega⟩)⟩⟩
section
variable {u0 u1 u2 u3 u4 u5 u6 u7 u8 u9 gF gG gH gI gJ gK gL gM gN gO gP gQ gR gT gV gW gX gY gZ i6 i7 i8 ia ib ic ie ig ii ij ik il : zV}
def NarE (w':zW)(l r h:Pat)(C:zP)(k d:Nat)(br ok:Bool)(err:Int):Prop:=(ok=false/\err=0/\zc6 l h=none)\/(ok=false/\err=43/\∃ m,zc6 l h=some m/\zig l r m) \/
  (ok=true/\err=0/\∃ m,zc6 l h=some m/\¬ zig l r m/\k=(zif l r m).kp.length/\br=(zif l r m).kr/\zbx w' (zL C k d) (zif l r m))
def NarR (w w':zW)(l r h:Pat)(C:zP)(k d:Nat)(br ok:Bool)(err:Int):Prop:=NarE w' l r h C k d br ok err/\(ok=true->∀ x,(zL C k d).ownBlock=some x->w.heap.size<=x)
theorem NarW.opn {w w':zW}{l r h:Pat}{e:Ending}(H:NarW w l r h e w'):zB w w'/\∃ A n c b C k d br ok err,e=.returned (.tuple #[.agg #[.bool false,zL A n c,.bool b,zL C k d,.bool br],.bool ok,zI err])/\NarR w w' l r h C k d br ok err:=by
  obtain⟨hb,⟨h1,rfl⟩ | ⟨m,h1,⟨h2,rfl⟩ | ⟨h2,A',c',C',d',rfl,h3,h4,h5⟩⟩⟩:=H
  · exact⟨hb,_,_,_,_,_,_,_,_,_,_,rfl,.inl ⟨rfl,rfl,h1⟩,fun e=>by cases e⟩
  · exact⟨hb,_,_,_,_,_,_,_,_,_,_,rfl,.inr (.inl ⟨rfl,rfl,m,h1,h2⟩),fun e=>by cases e⟩
  · exact⟨hb,_,_,_,_,_,_,_,_,_,_,rfl,.inr (.inr ⟨rfl,rfl,m,h1,h2,rfl,rfl,h4⟩),fun _=>h5⟩
theorem NarE.low {w w2:zW}{l r h:Pat}{C:zP}{k d:Nat}{br ok:Bool}{err:Int}(H:NarE w l r h C k d br ok err)(hb:zB w w2):NarE w2 l r h C k d br ok err:=by
  rcases H with h1 | h1 | ⟨h1,h2,m,h3,h4,h5,h6,h7⟩
  · exact .inl h1
  · exact .inr (.inl h1)
  · exact .inr (.inr ⟨h1,h2,m,h3,h4,h5,h6,h7.kw hb⟩)
theorem NarR.low {w w' w2:zW}{l r h:Pat}{C:zP}{k d:Nat}{br ok:Bool}{err:Int}(H:NarR w w' l r h C k d br ok err)(hb:zB w' w2):NarE w2 l r h C k d br ok err:=H.1.low hb
theorem NarR.far {w w':zW}{l r h:Pat}{C:zP}{k d g:Nat}{br ok:Bool}{err:Int}(H:NarR w w' l r h C k d br ok err)(hg:g<w.heap.size)(u0 u1 u2 u3 u4:zV):NarE (((((w'.setCell ⟨g,0,none⟩ u0).setCell ⟨g,1,none⟩ u1).setCell ⟨g,2,none⟩ u2).setCell ⟨g,3,none⟩ u3).setCell ⟨g,4,none⟩ u4) l r h C k d br ok err:=by
  obtain⟨h1 | h1 | ⟨h1,h2,m,h3,h4,h5,h6,h7⟩,hf⟩:=H
  · exact .inl h1
  · exact .inr (.inl h1)
  · have n6:(zL C k d).ownBlock≠some g:=fun e=>by have:=hf h1 _ e;omega
    exact .inr (.inr ⟨h1,h2,m,h3,h4,h5,h6,Row.set_far (Row.set_far (Row.set_far (Row.set_far (Row.set_far h7.1 n6) n6) n6) n6) n6,h7.2⟩)
theorem zlm:z0e prog 57 56 2 32:=z0f underlying57 (z:=.agg #[zL none 0 0,.bool false]) (by kernel_rfl) rfl (by decide)
theorem zln {W:zW}{g:Nat}{v0 v1 v2 v3 v4:zV}(h:Blk W g 62 [v0,v1,v2,v3,v4]):(W.cell? ⟨g,0,none⟩=some v0/\W.cell? ⟨g,1,none⟩=some v1/\W.cell? ⟨g,2,none⟩=some v2/\W.cell? ⟨g,3,none⟩=some v3/\W.cell? ⟨g,4,none⟩=some v4)/\W.frozen? ⟨g,0,none⟩=false/\W.frozen? ⟨g,1,none⟩=false/\W.frozen? ⟨g,2,none⟩=false/\W.frozen? ⟨g,3,none⟩=false/\W.frozen? ⟨g,4,none⟩=false:=
  ⟨⟨h.cell 0,h.cell 1,h.cell 2,h.cell 3,h.cell 4⟩,h.frozen 0,h.frozen 1,h.frozen 2,h.frozen 3,h.frozen 4⟩
theorem zlo {V1 w5 w6:zW}(hX5:Below (V1.alloc (zC #[.bool false,zL none 0 0,.bool false,zL none 0 0,.bool false] 62)).drew.heap.size (V1.alloc (zC #[.bool false,zL none 0 0,.bool false,zL none 0 0,.bool false] 62)).drew w5)(hX6:zB w5 w6):Blk w6 V1.heap.size 62 [.bool false,zL none 0 0,.bool false,zL none 0 0,.bool false]:=by
  have h0:Blk (V1.alloc (zC #[.bool false,zL none 0 0,.bool false,zL none 0 0,.bool false] 62)).drew V1.heap.size 62 [.bool false,zL none 0 0,.bool false,zL none 0 0,.bool false]:=z0l V1 _ _;have h1:=Blk.kw h0 hX5 (Blk.lt h0);exact Blk.kw h1 hX6 (Blk.lt h1)
theorem zlp {V1 w6:zW}{g:Nat}{v0 v1 v2 v3 v4:zV}(hb:zB V1 w6)(hB:Blk w6 g 62 [v0,v1,v2,v3,v4])(hg:V1.heap.size<=g)(u0 u1 u2 u3 u4:zV):
    zB V1 (((((w6.setCell ⟨g,0,none⟩ u0).setCell ⟨g,1,none⟩ u1).setCell ⟨g,2,none⟩ u2).setCell ⟨g,3,none⟩ u3).setCell ⟨g,4,none⟩ u4)/\(((((w6.setCell ⟨g,0,none⟩ u0).setCell ⟨g,1,none⟩ u1).setCell ⟨g,2,none⟩ u2).setCell ⟨g,3,none⟩ u3).setCell ⟨g,4,none⟩ u4).cell? ⟨g,3,none⟩=some u3/\(((((w6.setCell ⟨g,0,none⟩ u0).setCell ⟨g,1,none⟩ u1).setCell ⟨g,2,none⟩ u2).setCell ⟨g,3,none⟩ u3).setCell ⟨g,4,none⟩ u4).cell? ⟨g,4,none⟩=some u4:=by
  have hE:=((((hB.set_ 0 u0).set_ 1 u1).set_ 2 u2).set_ 3 u3).set_ 4 u4;exact⟨((((hb.setCell (p:=⟨g,0,none⟩) hg u0).setCell (p:=⟨g,1,none⟩) hg u1).setCell (p:=⟨g,2,none⟩) hg u2).setCell (p:=⟨g,3,none⟩) hg u3).setCell (p:=⟨g,4,none⟩) hg u4,hE.cell 3,hE.cell 4⟩
theorem rtR5W (ops:Array Oper)(hops:Tryz.f47.body.bind (z0w 5)=some ops)(Q:Exit->Act->zW->Prop)(l r h:Pat)(A B C H:zP)(a b c n hc g1 g6:Nat)(V1:zW)
    (h1:Blk V1 g1 59 [zL A l.kp.length a,.bool l.kr,zL C r.kp.length c,.bool r.kr,zL H n hc]) (h6:zch V1 g6 (zL B h.kp.length b) h.kr)
    (hl:zbx V1 (zL A l.kp.length a) l) (hh:zbx V1 (zL B h.kp.length b) h) (hr:zbx V1 (zL C r.kp.length c) r) (hru:zbw l r=0) (hhe:z8w h=0) (hsz:∀ m,zc6 l h=some m->∀ x∈(zif l r m).kp,x.size<=30000000)
    (hQ:∀(eA eB eC eD eE eF eG eH:zV) (g7:Nat) (C':zP) (k' c':Nat) (br ok:Bool) (err:Int) (w':zW),zB V1 w'->w'.cell? ⟨g7,3,none⟩=some (.slice C' k' c')->w'.cell? ⟨g7,4,none⟩=some (.bool br)->V1.heap.size<=g7->NarE w' l r h C' k' c' br ok err->(ok=true->∀ x,(zL C' k' c').ownBlock=some x->V1.heap.size<=x)->Q .normal ⟨#[u0,.pointer (some ⟨g1,0,none⟩),u2,u3,u4,u5,.pointer (some ⟨g6,0,none⟩),.pointer (some ⟨g7,0,none⟩),.bool ok,zI err,gF,gG,gH,gI,gJ,gK,gL,gM,gN,gO,eA,eB,eC,eD,eE,eF,eG,eH,gZ,i6,i7,i8,ia,ib,ic,ie,ig,ii,ij,ik,il],[]⟩ w'):
    (Code.region 5 ops true).wp prog Q ⟨#[u0,.pointer (some ⟨g1,0,none⟩),u2,u3,u4,u5,.pointer (some ⟨g6,0,none⟩),u7,u8,u9,gF,gG,gH,gI,gJ,gK,gL,gM,gN,gO,gP,gQ,gR,gT,gV,gW,gX,gY,gZ,i6,i7,i8,ia,ib,ic,ie,ig,ii,ij,ik,il],[]⟩ V1:=by
  simp only[Tryz.f47,Zp,z0w] at hops
  simp at hops
  subst hops;have HQ:=hd_ hQ;have H6:=hd_ h6;have HLI:=hd_ (fun X=>zdm A C l.kp.length r.kp.length a c l.kr r.kr (zL H n hc) X);have HNA:=hd_ (fun X (hX:zB V1 X)=>narrowW false l r h A B C a b c X (hl.kw hX) (hh.kw hX) (hr.kw hX) hru hhe hsz);obtain⟨x0,x1,x2,x3,x4⟩:=(⟨h1.cell 0,h1.cell 1,h1.cell 2,h1.cell 3,h1.cell 4⟩:V1.cell? ⟨g1,0,none⟩=some (.slice A l.kp.length a)/\V1.cell? ⟨g1,1,none⟩=some (.bool l.kr)/\V1.cell? ⟨g1,2,none⟩=some (.slice C r.kp.length c)/\V1.cell? ⟨g1,3,none⟩=some (.bool r.kr)/\V1.cell? ⟨g1,4,none⟩=some (.slice H n hc));have y0:=h6.c0;have y1:=h6.c1;have hVA:zB V1 (V1.alloc (zC #[.bool false,zL none 0 0,.bool false,zL none 0 0,.bool false] 62)).drew:=(zR).drew;have a0:(V1.alloc (zC #[.bool false,zL none 0 0,.bool false,zL none 0 0,.bool false] 62)).drew.cell? ⟨g6,0,none⟩=some (.slice B h.kp.length b):=(h6.low hVA).c0;have a1:(V1.alloc (zC #[.bool false,zL none 0 0,.bool false,zL none 0 0,.bool false] 62)).drew.cell? ⟨g6,1,none⟩=some (.bool h.kr):=(h6.low hVA).c1;have hq:=h1.kw hVA h1.lt;obtain⟨b0,b1,b2,b3,b4⟩:=(⟨hq.cell 0,hq.cell 1,hq.cell 2,hq.cell 3,hq.cell 4⟩:(V1.alloc (zC #[.bool false,zL none 0 0,.bool false,zL none 0 0,.bool false] 62)).drew.cell? ⟨g1,0,none⟩=some (.slice A l.kp.length a)/\(V1.alloc (zC #[.bool false,zL none 0 0,.bool false,zL none 0 0,.bool false] 62)).drew.cell? ⟨g1,1,none⟩=some (.bool l.kr)/\(V1.alloc (zC #[.bool false,zL none 0 0,.bool false,zL none 0 0,.bool false] 62)).drew.cell? ⟨g1,2,none⟩=some (.slice C r.kp.length c)/\(V1.alloc (zC #[.bool false,zL none 0 0,.bool false,zL none 0 0,.bool false] 62)).drew.cell? ⟨g1,3,none⟩=some (.bool r.kr)/\(V1.alloc (zC #[.bool false,zL none 0 0,.bool false,zL none 0 0,.bool false] 62)).drew.cell? ⟨g1,4,none⟩=some (.slice H n hc));clear hQ h1 h6 hl hh hr hru hhe hsz hVA hq;refine wp_region_noPanic ?_
  go_region_law (first
    | (go_simp;go_at_call 94;refine (HLI _).mono ?_;rintro e w5 ⟨rfl,hX5⟩;have hS5:zB V1 w5:=(by repeat (first | exact Zb _ _ | refine Below.drew ?_ | refine z0t ?_ _):zB V1 _).trans (hX5.mono (by simp));have z0:w5.cell? ⟨g6,0,none⟩=some (.slice B h.kp.length b):=(H6.low hS5).c0;have z1:w5.cell? ⟨g6,1,none⟩=some (.bool h.kr):=(H6.low hS5).c1;have z2:(w5.alloc (zC #[.bool false,zL none 0 0,.bool false,zL none 0 0,.bool false] 62)).cell? ⟨g6,0,none⟩=some (.slice B h.kp.length b):=(H6.low (hS5.alloc hS5.size _)).c0;have z3:(w5.alloc (zC #[.bool false,zL none 0 0,.bool false,zL none 0 0,.bool false] 62)).cell? ⟨g6,1,none⟩=some (.bool h.kr):=(H6.low (hS5.alloc hS5.size _)).c1)
    | (go_simp;go_at_call 96;refine (HNA _ (by repeat (first | exact hS5 | refine Below.drew ?_ | refine z0t ?_ _))).mono ?_;rintro e w6 hNW;obtain⟨hX6,A',n',c',b',C',k',d',br',ok',err',rfl,hR6⟩:=hNW.opn;(try (have hblk:=Blk.kw (z0l w5 [.bool false,zL none 0 0,.bool false,zL none 0 0,.bool false] 62) hX6 (by simp);have hge:V1.heap.size<=w5.heap.size:=hS5.size;have hS6:=z0r (hS5.alloc hS5.size _) hX6;have qq:=zln hblk;obtain⟨⟨p0,p1,p2,p3,p4⟩,k0,k1,k2,k3,k4⟩:=qq));(try (have hblk:=zlo hX5 hX6;have hge:V1.heap.size<=V1.heap.size:=Zd _;have hS6:=z0r hS5 hX6;have qq:=zln hblk;obtain⟨⟨p0,p1,p2,p3,p4⟩,k0,k1,k2,k3,k4⟩:=qq))))
  all_goals refine NoPanic.normal ?_
  all_goals first
    | (have hq9:=zlp hS6 hblk hge (.bool false) (zL A' n' c') (.bool b') (zL C' k' d') (.bool br')
       obtain⟨e1,e2,e3⟩:=hq9;exact HQ _ _ _ _ _ _ _ _ _ C' k' d' br' ok' err' _ e1 e2 e3 hge (hR6.far (by first | (have h9:=hX5.size;simp at h9;omega) | (simp;done) | (simp;omega)) _ _ _ _ _) (fun e x hx=>Zf hS5.size (Zf (by first | exact Zd _ | (simp;done)) (hR6.2 e x hx))))
    | (have hS6:=z0r hS5 hX6
       have hnew:=z0l w6 [.bool false,zL A' n' c',.bool b',zL C' k' d',.bool br'] 62;exact HQ _ _ _ _ _ _ _ _ _ C' k' d' br' ok' err' _ (hS6.alloc hS6.size _) (hnew.cell 3) (hnew.cell 4) hS6.size (hR6.low (zR)) (fun e x hx=>Zf hS5.size (Zf (by first | exact Zd _ | (simp;done)) (hR6.2 e x hx))))
end
def zlq (l r h:Pat):Prop:=∃ m,zc6 l h=some m/\zig l r m
def zlr (l r:Pat)(hs:List Pat):List Pat:=hs.filterMap fun h=>(zc6 l h).map (zif l r)
structure RtS (w wr:zW)(ce:List zV)(rv:zV)(rb:Bool)(v:zV)(n:Nat)(xs:List zV):Prop where
 low:zB w wr
 ent:Blk wr w.heap.size 59 ce
 res:Blk wr (w.heap.size+1) 66 [zL none 0 0,.bool false,zL none 0 0]
 box:Blk wr (w.heap.size+1+1) 66 [rv,.bool rb,v]
 own:wr.ownsRow (w.heap.size+1+1+1) 56 2 v n xs
theorem RtS.ku {w wr wx:zW}{ce:List zV}{rv:zV}{rb:Bool}{v:zV}{n:Nat}{xs:List zV}(h:RtS w wr ce rv rb v n xs)(hb:zB wr wx):RtS w wx ce rv rb v n xs:=
 ⟨z0r h.low hb,h.ent.kw hb h.ent.lt,h.res.kw hb h.res.lt,h.box.kw hb h.box.lt,z0n h.own hb⟩
theorem RtS.push {w wr w2:zW}{ce:List zV}{rv:zV}{rb:Bool}{v:zV}{n:Nat}{xs ys:List zV}{A':zP}{c':Nat}(h:RtS w wr ce rv rb v n xs)
  (hown:w2.ownsRow (w.heap.size+1+1+1) 56 2 (zL A' (n+1) c') (n+1) (xs++ys)) (hgr:wr.grownBy w2 v.ownBlock)
  (hob:(zL A' (n+1) c').ownBlock=v.ownBlock\/(zL A' (n+1) c').ownBlock=some wr.heap.size):
  RtS w (w2.setCell ⟨w.heap.size+1+1,2,none⟩ (zL A' (n+1) c')) ce rv rb (zL A' (n+1) c') (n+1) (xs++ys):=by
 have hl:=h.box.lt;have hb1:∀ k,v.ownBlock=some k->w.heap.size+1+1<k:=fun k e=>by have:=(h.own.lt k e).1;omega
 have hne:(zL A' (n+1) c').ownBlock≠some (w.heap.size+1+1):=by
  rcases hob with e | e
  ·rw[e];exact fun e=>by have:=hb1 _ e;omega
  ·rw[e];intro e2;injection e2 with e2;omega
 refine⟨(h.low.grown hgr h.low.size (fun k e=>by have:=hb1 k e;omega)).setCell (p:=⟨w.heap.size+1+1,2,none⟩) (by show w.heap.size<=w.heap.size+1+1;omega) _,Blk.far (Blk.grown h.ent hgr (fun e=>by have:=hb1 _ e.symm;omega)) (by show w.heap.size+1+1≠w.heap.size;omega) _,Blk.far (Blk.grown h.res hgr (fun e=>by have:=hb1 _ e.symm;omega)) (by show w.heap.size+1+1≠w.heap.size+1;omega) _,(Blk.grown h.box hgr (fun e=>by have:=hb1 _ e.symm;omega)).set_ 2 _,z5c hown (p:=⟨w.heap.size+1+1,2,none⟩) hne _⟩
theorem Row.grownN {w w':zW}{size n:Nat}{v:zV}{xs:List zV}{row:Option Nat}(h:Row w size v n xs)(hg:w.grownBy w' row)(hn:0<n)(hne:∀ x,v.ownBlock=some x->row≠some x):Row w' size v n xs:=by
 obtain⟨A,c,rfl,hc,hm,hl,h0,hr⟩:=id h;obtain⟨ad,rfl,-,-⟩:=hr hn;have hK:z49 row.toList w w':=⟨hg.os,hg.tape,hg.output,hg.size,fun k hk hs=>hg.block k hk (by
  intro e;apply hs
  subst e;simp)⟩
 refine Row.kept h hK fun hmem=>?_;cases row with
 | none=>simp at hmem
 | some g=>simp at hmem;exact hne _ rfl (by rw[hmem])
theorem zbx.blkLt {w:zW}{q:PatM}(h:zbx w q.v q.1)(hp:0<q.1.kp.length):∀ x,q.v.ownBlock=some x->x<w.heap.size:=fun x hx=>by
 obtain⟨ad,e,hb,-⟩:=z20.at_ (A:=q.2.1) (c:=q.2.2) h.1 hp;unfold PatM.v at hx;rw[e] at hx;injection hx with hx
 omega
structure RgS (w wr:zW)(ce:List zV)(rv:zV)(rb:Bool)(v:zV)(gs:List PatM):Prop where
 st:RtS w wr ce rv rb v gs.length (gs.flatMap PatM.cells)
 pat:∀ q∈gs,zbx wr q.v q.1
 fr:∀ q∈gs,0<q.1.kp.length/\∀ x,q.v.ownBlock=some x->w.heap.size+1+1<x/\v.ownBlock≠some x
theorem RgS.ku {w wr wx:zW}{ce:List zV}{rv:zV}{rb:Bool}{v:zV}{gs:List PatM}(h:RgS w wr ce rv rb v gs)(hb:zB wr wx):RgS w wx ce rv rb v gs:=⟨h.st.ku hb,fun q hq=>(h.pat q hq).kw hb,h.fr⟩
theorem RgS.push {w wr w2:zW}{ce:List zV}{rv:zV}{rb:Bool}{v:zV}{gs:List PatM}{q:PatM}{A':zP}{c':Nat}(h:RgS w wr ce rv rb v gs)(hq:zbx wr q.v q.1)(hp:0<q.1.kp.length)(hf:∀ x,q.v.ownBlock=some x->w.heap.size+1+1<x/\v.ownBlock≠some x)
  (hown:w2.ownsRow (w.heap.size+1+1+1) 56 2 (zL A' (gs.length+1) c') (gs.length+1) (gs.flatMap PatM.cells++q.cells)) (hgr:wr.grownBy w2 v.ownBlock)
  (hob:(zL A' (gs.length+1) c').ownBlock=v.ownBlock\/(zL A' (gs.length+1) c').ownBlock=some wr.heap.size):
  RgS w (w2.setCell ⟨w.heap.size+1+1,2,none⟩ (zL A' (gs.length+1) c')) ce rv rb (zL A' (gs.length+1) c') (gs++[q]):=by
 have hst:=h.st.push hown hgr hob;have hall:∀ q'∈gs++[q],zbx wr q'.v q'.1/\0<q'.1.kp.length/\∀ x,q'.v.ownBlock=some x->w.heap.size+1+1<x/\v.ownBlock≠some x:=fun q' hq'=>by
  rcases Zy.1 hq' with h1 | h1
  ·exact⟨h.pat q' h1,h.fr q' h1⟩
  ·rw[Zm.1 h1];exact⟨hq,hp,hf⟩
 refine⟨?_,fun q' hq'=>?_,fun q' hq'=>?_⟩
 ·rw[Zc,ZI,List.flatMap_singleton];exact hst
 ·obtain⟨h1,h2,h3⟩:=hall q' hq';refine⟨Row.set_far (Row.grownN h1.1 hgr h2 (fun x hx=>(h3 x hx).2)) (fun e=>?_),h1.2⟩;have:=(h3 _ e).1;omega
 ·obtain⟨h1,h2,h3⟩:=hall q' hq';refine⟨h2,fun x hx=>⟨(h3 x hx).1,?_⟩⟩;rcases hob with e | e
  ·rw[e];exact (h3 x hx).2
  ·rw[e];intro e2;injection e2 with e2;have:=h1.blkLt h2 x hx;omega
theorem zmd (n:Nat)(w:zW)(hn:n<=1000000):
  Calls prog 148 #[zL none 0 0,zI n] w
   fun e w'=>∃ v',e=.returned v'/\zB w w'/\w'.ownsRow w.heap.size 56 2 v' 0 []:=by
 by_cases h0:n=0
 ·subst h0;go_enter func148,ntmps148;go_wp2
  go_ret;exact⟨_,rfl,Zb _ _,Zv _ _ _ _⟩
 ·obtain⟨i,z,ht,hi,hz,hsize,hby,hzs,hsz⟩:=zlm;have hr:=Lib.run_append_nil_zeros (P:=prog) w 57 3 57 56 i z .i64 .i64 underlying57 underlying3 hi hz n (by omega) (by omega) (by omega) (by rw[hby];omega)
  have hb1:zB w (w.drew.alloc (.cells (Builtin.zeroCells z.cells n++Builtin.zeroCells z.cells (grownCap w n 0 56 - n)) 56)):=(Zb _ _).drew.alloc (by simp) _
  have hge:=grownCap_ge w n 0 56;have hle:=grownCap_le_maxLen w n 0 56 (by unfold maxLen;omega)
  have hown:(w.drew.alloc (.cells (Builtin.zeroCells z.cells n++Builtin.zeroCells z.cells (grownCap w n 0 56 - n)) 56)).ownsRow w.heap.size 56 2 (zL (some ⟨w.heap.size,0,none⟩) 0 (grownCap w n 0 56)) 0 []:=
   ⟨rfl,.inr ⟨w.heap.size,_,_,rfl,Zd _,heap_alloc_new w.drew _,Zg _,hle,by rw[Array.size_append,size_zeroCells,size_zeroCells,hzs,<- Nat.add_mul];congr 1;omega,by simp⟩⟩
  clear hz hsize hby hzs hsz ht hi;generalize w.drew.alloc (.cells (Builtin.zeroCells z.cells n++Builtin.zeroCells z.cells (grownCap w n 0 56 - n)) 56)=w1 at hr hb1 hown;generalize grownCap w n 0 56=cp at hr hown hge hle;have HO:=hd_ hown;have HB:=hd_ hb1;have hnz:(0:Int)<(n:Int):=by omega
  unfold maxLen at hle;clear hown hb1;go_enter func148,ntmps148;go_wp2_with (at_builtin;refine Lib.wpList_append_run _ rfl _ _ _ _ rfl _ _ rfl rfl _ _ hr ?_)
  go_ret;exact⟨_,rfl,HB,HO⟩
theorem zme (l:List PatM):∀ u∈l.flatMap PatM.cells,u.oneCell'=true:=by
 intro u hu;obtain⟨r,-,hr⟩:=List.mem_flatMap.1 hu;simp only[PatM.cells,Zn,ZO,or_false] at hr
 rcases hr with rfl | rfl <;> rfl
theorem zmf (l1 l2:List PatM)(v1 v2:zV)(g:Nat)(w:zW)(hB:Blk w g 57 [v1,v2])(h1:Row w 2 v1 l1.length (l1.flatMap PatM.cells))(h2:Row w 2 v2 l2.length (l2.flatMap PatM.cells))(hl1:l1.length<=100000)(hl2:l2.length<=100000):
  Calls prog 99 #[zL (some ⟨g,0,none⟩) 2 2] w
   fun e w'=>∃ v',e=.returned v'/\zB w w'/\w'.ownsRow w.heap.size 56 2 v' (l1.length+l2.length) ((l1++l2).flatMap PatM.cells):=by
 obtain⟨A1,c1,rfl,-,-,-⟩:=id h1;obtain⟨A2,c2,rfl,-,-,-⟩:=id h2;have b0:=hB.cell 0;have b1:=hB.cell 1;have b0':w.cell? ⟨g,0,none⟩=some (.slice A1 l1.length c1):=b0;have b1':w.cell? ⟨g,1,none⟩=some (.slice A2 l2.length c2):=b1;clear b0 b1;have HB:=hd_ hB;have H1:=hd_ h1;have H2:=hd_ h2;have HG:=hd_ (zmd (l1.length+l2.length) w (by omega))
 rw[Int.natCast_add] at HG;clear hB h1 h2;go_enter func99,ntmps99;go_wp2_with fail;refine wp_loop_rounds 3 ?_;rw[rounds_succ];go_wp2_with fail;rw[rounds_succ];go_wp2_with fail;rw[rounds_succ];go_wp2_with fail;refine HG.mono ?_;rintro e w1 ⟨v',rfl,hb1,hown1⟩;have q0:=z04 b0' hb1 (z03 b0');have q1:=z04 b1' hb1 (z03 b1');have hr1:Row w1 2 (zL A1 l1.length c1) l1.length (l1.flatMap PatM.cells):=Row.kw H1 hb1;have B1:=hd_ b1';have HOW:=hd_ hown1;have HBL:=hd_ hb1;have HR1:=hd_ hr1;clear hb1 hown1 b0' b1' hr1;go_wp2_with fail;refine wp_loop_rounds 3 ?_;rw[rounds_succ];go_wp2_with (at_builtin;refine z0k rfl rfl zlm HOW rfl HR1 rfl HBL HBL.size (zme _) (by omega) (by unfold maxLen;omega) ?_;intro A' c' w2 hown2 hbl2)
 have q2:=z04 B1.out hbl2 (z03 B1.out);have hr2:Row w2 2 (zL A2 l2.length c2) l2.length (l2.flatMap PatM.cells):=Row.kw H2 hbl2;rw[ZV,Yc] at hown2;have HOW2:=hd_ hown2;have HBL2:=hd_ hbl2;have HR2:=hd_ hr2;clear hown2 hbl2 hr2 q0 q1;rw[rounds_succ];go_wp2_with (at_builtin;refine z0k rfl rfl zlm HOW2 rfl HR2 rfl HBL2 HBL2.size (zme _) (by omega) (by unfold maxLen;omega) ?_;intro A3 c3 w3 hown3 hbl3)
 have HOW3:=hd_ hown3;have HBL3:=hd_ hbl3;clear hown3 hbl3;rw[rounds_succ];go_wp2_with fail;go_ret;refine⟨_,rfl,HBL3,?_⟩;have:=HOW3.out;rw[ZI];simpa using this
theorem zr4 (p:Pat)(b:Bool)(hbr:p.kr=b)(A:zP)(c:Nat)(w:zW)(hp:zbx w (zL A p.kp.length c) p)(h0:z8w p=0):
  Calls prog 138 #[.agg #[zL A p.kp.length c,.bool b]] w fun e w'=>e=.returned (zI ((zbq p+(if b then 1 else 0):Nat):Int))/\zB w w':=by
 have hA:zB w (w.alloc (zC #[zL A p.kp.length c,.bool b] 56)):=zR;have h2:zch (w.alloc (zC #[zL A p.kp.length c,.bool b] 56)) w.heap.size (zL A p.kp.length c) b:=z0l w [zL A p.kp.length c,.bool b] 56;have HK:Hid (Calls prog 41 #[.agg #[zL A p.kp.length c,.bool b]] (w.alloc (zC #[zL A p.kp.length c,.bool b] 56)) fun e w'=>e=.returned (.tuple #[zI (zbq p),.bool b])/\Below (w.alloc (zC #[zL A p.kp.length c,.bool b] 56)).heap.size (w.alloc (zC #[zL A p.kp.length c,.bool b] 56)) w'):=hd_ (by
  have:=zqe p A c _ (hp.kw hA) h0;unfold zqd at this;rw[hbr] at this;exact this)
 have HA:=hd_ hA;have hs12:zbq p<=12:=Zf (ZS ..) (zcc h0);have x0:=h2.c0;have x1:=h2.c1;clear hp hbr h0 hA h2;go_enter func138,ntmps138;cases b
 all_goals
  go_wp2_with fail;refine HK.mono ?_;rintro e w2 ⟨rfl,hb⟩;dsimp only;have HB:=hd_ (z0r HA hb);clear hb x0 x1;go_wp2_with fail;go_ret;exact⟨by simp,HB⟩
structure RfSt (w2 wr:zW)(parts caps:List zA)(k:Nat)(done:List zA)(av:zV):Prop where
 low:zB w2 wr
 own:wr.ownsRow w2.heap.size 9 1 av k (done.map .string)
 len:done.length=k
 is:done++zcl (parts.drop k) (caps.drop (zbp parts k))=zcl parts caps
theorem RfSt.plain {w2 wr wy:zW}{parts caps:List zA}{k:Nat}{done:List zA}{av av':zV}(h:RfSt w2 wr parts caps k done av)(hk:k<parts.length)(hs:z8r parts[k]=false)(hl:zB w2 wy)(ho:wy.ownsRow w2.heap.size 9 1 av' (k+1) ((done++[parts[k]]).map .string)):
  RfSt w2 wy parts caps (k+1) (done++[parts[k]]) av':=by
 have e:zbp parts (k+1)=zbp parts k:=by rw[zbr hk,hs];rfl
 refine⟨hl,ho,by rw[Zc,h.len];rfl,?_⟩
 rw[e,<- h.is,Zo hk];conv=>rhs;unfold zcl
 rw[hs];simp
theorem RfSt.star {w2 wr wy:zW}{parts caps:List zA}{k:Nat}{done r:List zA}{c:zA}{av av':zV}(h:RfSt w2 wr parts caps k done av)(hk:k<parts.length)(hs:z8r parts[k]=true)(hr:caps.drop (zbp parts k)=c :: r)(hl:zB w2 wy)(ho:wy.ownsRow w2.heap.size 9 1 av' (k+1) ((done++[c++za5 parts[k]]).map .string)):
  RfSt w2 wy parts caps (k+1) (done++[c++za5 parts[k]]) av':=by
 have e:zbp parts (k+1)=zbp parts k+1:=by rw[zbr hk,hs];rfl
 have e2:caps.drop (zbp parts (k+1))=r:=by rw[e,<- List.drop_drop,hr];rfl
 refine⟨hl,ho,by rw[Zc,h.len];rfl,?_⟩
 rw[e2,<- h.is,Zo hk,hr];conv=>rhs;unfold zcl
 rw[hs];simp
theorem zr5 {w W w':zW}{row:Option Nat}(h:zB w W)(hg:W.grownBy w' row)(hr:∀ k,row=some k->w.heap.size<=k):zB w w':=
 ⟨hg.os.trans h.os,hg.tape.trans h.tape,hg.output.trans h.output,Zf h.size hg.size,fun k hk=>(hg.block k (Zq hk h.size) (fun e=>by have:=hr k e.symm;omega)).trans (h.block k hk)⟩
theorem zr6 (xs ys zs:List (List UInt8))(h1:ys≠[])(h2:zs≠[])(h:Lib.join ys [47]=Lib.join zs [47]):Lib.join (xs++ys) [47]=Lib.join (xs++zs) [47]:=by
 induction xs with
 | nil=>exact h
 | cons x xs ih =>
  rw[List.cons_append,List.cons_append,z1l x (xs++ys) (by simp [h1]),z1l x (xs++zs) (by simp [h2]),ih]
theorem zr7 (xs:List (List UInt8))(l:List UInt8):Lib.join (xs++z1e l) [47]=Lib.join (xs++[l]) [47]:=
 zr6 xs _ _ (z1f l) (by simp) (by rw[z1m];simp [Lib.join])
structure LsS (T:TypeId)(W wr:zW)(v:zV)(gs:List PatM):Prop where
 low:zB W wr
 own:wr.ownsRow W.heap.size T 2 v gs.length (gs.flatMap PatM.cells)
 pat:∀ q∈gs,zbx wr q.v q.1
 fr:∀ q∈gs,0<q.1.kp.length->∀ x,q.v.ownBlock=some x->W.heap.size<=x/\v.ownBlock≠some x
theorem LsS.zero (T:TypeId)(W:zW):LsS T W W (zL none 0 0) []:=⟨Zb _ _,Zv _ _ _ _,fun q hq=>(by cases hq),fun q hq=>(by cases hq)⟩
theorem LsS.ku {T:TypeId}{W wr wx:zW}{v:zV}{gs:List PatM}(h:LsS T W wr v gs)(hb:zB wr wx):LsS T W wx v gs:=⟨z0r h.low hb,z0n h.own hb,fun q hq=>(h.pat q hq).kw hb,h.fr⟩
theorem LsS.holes {T:TypeId}{W wr:zW}{v:zV}{gs:List PatM}(h:LsS T W wr v gs):HolesIn wr v gs:=⟨Row.of_own h.own,h.pat⟩
theorem LsS.push {T:TypeId}{W wr w2:zW}{v:zV}{gs:List PatM}{q:PatM}{A':zP}{c':Nat}(h:LsS T W wr v gs)(hq:zbx wr q.v q.1)(hf:0<q.1.kp.length->∀ x,q.v.ownBlock=some x->W.heap.size<=x/\v.ownBlock≠some x)
  (hown:w2.ownsRow W.heap.size T 2 (zL A' (gs.length+1) c') (gs.length+1) (gs.flatMap PatM.cells++q.cells)) (hgr:wr.grownBy w2 v.ownBlock)
  (hob:(zL A' (gs.length+1) c').ownBlock=v.ownBlock\/(zL A' (gs.length+1) c').ownBlock=some wr.heap.size):
  LsS T W w2 (zL A' (gs.length+1) c') (gs++[q]):=by
 have hall:∀ q'∈gs++[q],zbx wr q'.v q'.1/\(0<q'.1.kp.length->∀ x,q'.v.ownBlock=some x->W.heap.size<=x/\v.ownBlock≠some x):=fun q' hq'=>by
  rcases Zy.1 hq' with h1 | h1
  ·exact⟨h.pat q' h1,h.fr q' h1⟩
  ·rw[Zm.1 h1];exact⟨hq,hf⟩
 refine⟨h.low.grown hgr h.low.size (fun k e=>(h.own.lt k e).1),?_,fun q' hq'=>?_,fun q' hq' h2=>?_⟩
 ·rw[Zc,ZI,List.flatMap_singleton];exact hown
 ·obtain⟨h1,h3⟩:=hall q' hq';by_cases h2:0<q'.1.kp.length
  ·exact⟨Row.grownN h1.1 hgr h2 (fun x hx=>(h3 h2 x hx).2),h1.2⟩
  ·exact⟨Row.empty h1.1 (by omega),h1.2⟩
 ·obtain⟨h1,h3⟩:=hall q' hq';refine fun x hx=>⟨(h3 h2 x hx).1,?_⟩;rcases hob with e | e
  ·rw[e];exact (h3 h2 x hx).2
  ·rw[e];intro e2;injection e2 with e2;have:=h1.blkLt h2 x hx;omega
theorem zs1:∀(L:List PatM) (k:Nat) (q:PatM),k<L.length->((L.flatMap PatM.cells).set (k * 2) q.v).set (k * 2+1) (.bool q.1.kr)=(L.set k q).flatMap PatM.cells
 | [],k,q,h=>by simp at h
 | a :: L,0,q,_=>by simp [PatM.cells]
 | a :: L,k+1,q,h=>by
  have ih:=zs1 L k q (by simpa using h)
  have e1:(k+1) * 2=(k * 2)+1+1:=by omega
  have e2:(k+1) * 2+1=(k * 2+1)+1+1:=by omega
  rw[ZG,List.set_cons_succ,ZG,<- ih,e1];show (((a.v :: (Value.bool a.1.kr) :: L.flatMap PatM.cells).set (k * 2+1+1) q.v).set (k * 2+1+1+1) (.bool q.1.kr))=_
  rw[List.set_cons_succ,List.set_cons_succ,List.set_cons_succ,List.set_cons_succ];rfl
def swpL (L:List PatM)(k:Nat)(hk:k<L.length):List PatM:=(L.set k (L[k - 1]'(by omega))).set (k - 1) L[k]
theorem zs3 (L:List PatM)(k:Nat)(hk:k<L.length):(swpL L k hk).Perm L:=List.set_set_perm hk (by omega)
theorem LsS.swap {T:TypeId}{W wr:zW}{g n c k:Nat}{gs:List PatM}(h:LsS T W wr (zL (some ⟨g,0,none⟩) n c) gs)(hn:gs.length=n)(hk:k<gs.length)(h0:0<k):
  LsS T W ((((wr.setCell ⟨g,k * 2,none⟩ (gs[k - 1]'(by omega)).v).setCell ⟨g,k * 2+1,none⟩ (.bool (gs[k - 1]'(by omega)).1.kr)).setCell ⟨g,(k - 1) * 2,none⟩ gs[k].v).setCell ⟨g,(k - 1) * 2+1,none⟩ (.bool gs[k].1.kr)) (zL (some ⟨g,0,none⟩) n c) (swpL gs k hk):=by
 subst hn;have hg:W.heap.size<=g:=(h.own.lt g rfl).1;have hlen:(swpL gs k hk).length=gs.length:=by unfold swpL;simp
 have hmem:∀ q∈swpL gs k hk,q∈gs:=fun q hq=>(zs3 gs k hk).mem_iff.1 hq;have ho:=zbz (zbz (zbz (zbz h.own (gs[k - 1]'(by omega)).v (j:=k * 2)) (.bool (gs[k - 1]'(by omega)).1.kr) (j:=k * 2+1)) gs[k].v (j:=(k - 1) * 2)) (.bool gs[k].1.kr) (j:=(k - 1) * 2+1)
 refine⟨(((h.low.setCell (p:=⟨g,k * 2,none⟩) hg _).setCell (p:=⟨g,k * 2+1,none⟩) hg _).setCell (p:=⟨g,(k - 1) * 2,none⟩) hg _).setCell (p:=⟨g,(k - 1) * 2+1,none⟩) hg _,?_,fun q hq=>?_,fun q hq=>h.fr q (hmem q hq)⟩
 ·rw[hlen];rw[zs1 gs k _ hk,zs1 (gs.set k _) (k - 1) _ (by rw[List.length_set];omega)] at ho
  exact ho
 ·obtain⟨h1,h2⟩:=h.pat q (hmem q hq);by_cases h0:0<q.1.kp.length
  ·have n:q.v.ownBlock≠some g:=fun e=>(h.fr q (hmem q hq) h0 g e).2 rfl;exact⟨Row.set_far (Row.set_far (Row.set_far (Row.set_far h1 n) n) n) n,h2⟩
  ·exact⟨Row.empty h1 (by omega),h2⟩
open Go.Sort (grow)
theorem zsg (p:Pat)(n:Nat)(A:zP)(a:Nat)(w:zW):
    Calls prog 188 #[.agg #[zL A p.kp.length a,.bool p.kr],zI n] w fun e w'=>e=.returned (.bool (zhk p n))/\zB w w':=by
  have hB:=z0l w [zL A p.kp.length a,.bool p.kr] 56;have hA:zB w (w.alloc (zC #[zL A p.kp.length a,.bool p.kr] 56)):=zR;have HR:Hid (zhk p n=if p.kr then decide (p.kp.length<n) else decide (n=p.kp.length)):=hd_ rfl;go_enter func188,ntmps188;go_upto_region 1 with fail;generalize w.alloc (zC #[zL A p.kp.length a,.bool p.kr] 56)=W1 at hB hA |-;have d0:W1.cell? ⟨w.heap.size,0,none⟩=some (.slice A p.kp.length a):=hB.cell 0;have d1:W1.cell? ⟨w.heap.size,1,none⟩=some (.bool p.kr):=hB.cell 1;have HA:=hd_ hA;clear hB hA;obtain⟨b,hb⟩:∃ b,p.kr=b:=⟨_,rfl⟩;rw[hb] at d1 HR;clear hb;cases b with
  | false =>
    have e:((n:Int) == (p.kp.length:Int))=decide (n=p.kp.length):=by rw[ZY,beq_iff_eq,decide_eq_true_eq];omega
    have HE:=hd_ e;clear e;go_wp2_with fail;go_ret;exact⟨by rw[HR.out,if_neg (by decide),<- HE.out];rfl,HA⟩
  | true =>
    have HE:Hid (decide ((p.kp.length:Int)<(n:Int))=decide (p.kp.length<n)):=hd_ (by rw[ZY,decide_eq_true_eq,decide_eq_true_eq];omega)
    go_wp2_with fail;go_ret;exact⟨by rw[HR.out];first | rfl | simp,HA⟩
theorem rPartW (p:Pat)(n:Nat)(A:zP)(a:Nat)(w:zW)(hp:z20 w (zL A p.kp.length a) p.kp):
    Calls prog 189 #[.agg #[zL A p.kp.length a,.bool p.kr],zI n] w fun e w'=>e=.returned (zS (zlv p n))/\zB w w':=by
  have hB:=z0l w [zL A p.kp.length a,.bool p.kr] 56;have hA:zB w (w.alloc (zC #[zL A p.kp.length a,.bool p.kr] 56)):=zR;have HS:=hd_ (hp.kw hA);clear hp;go_enter func189,ntmps189;go_upto_region 1 with fail;generalize w.alloc (zC #[zL A p.kp.length a,.bool p.kr] 56)=W1 at hB hA HS |-;have d0:W1.cell? ⟨w.heap.size,0,none⟩=some (.slice A p.kp.length a):=hB.cell 0;have HA:=hd_ hA;clear hB hA;by_cases h1:n<p.kp.length
  · obtain⟨ad,rfl,hab,s0⟩:=z20.at_ HS.out h1
    have HV:Hid (zlv p n=p.kp[n]):=hd_ (by unfold zlv;rw[Ze h1];rfl)
    generalize p.kp[n]=s at s0 HV;have hz:(n:Int)<(p.kp.length:Int):=by omega
    clear hab;go_wp2_with fail;go_ret;exact⟨by rw[HV.out];rfl,HA⟩
  · have HV:Hid (zlv p n=⟨#[42]⟩):=hd_ (by unfold zlv;rw[List.getElem?_eq_none (by omega)];rfl)
    have hz:¬(n:Int)<(p.kp.length:Int):=by omega
    go_wp2_with fail;go_ret;exact⟨by rw[HV.out];rfl,HA⟩
theorem zsh {b:Pat}(h:z8w b=0)(k:Nat):z8t (zlv b k)≠0:=by
  unfold zlv;cases hk:b.kp[k]? with
  | none=>decide
  | some s=>exact (zid.1 h).ok s (List.mem_of_getElem? hk)
theorem zsi (h b:Pat)(n:Nat)(A B:zP)(a c:Nat)(w:zW)(hh:zbx w (zL A h.kp.length a) h)(hb:zbx w (zL B b.kp.length c) b)(hhe:z8w h=0)(hbe:z8w b=0)(hn:n<=1000):
    Calls prog 141 #[.agg #[zL B b.kp.length c,.bool b.kr],.agg #[zL A h.kp.length a,.bool h.kr],zI 0,zI n] w fun e w'=>e=.returned (.bool (zhk h n && zlw b h n))/\zB w w':=by
  have hA:zB w ((w.alloc (zC #[zL B b.kp.length c,.bool b.kr] 56)).alloc (zC #[zL A h.kp.length a,.bool h.kr] 56)):=(zR).alloc (by simp) _
  have h3:zch ((w.alloc (zC #[zL B b.kp.length c,.bool b.kr] 56)).alloc (zC #[zL A h.kp.length a,.bool h.kr] 56)) w.heap.size (zL B b.kp.length c) b.kr:=(z0l w [zL B b.kp.length c,.bool b.kr] 56).alloc _;have h2:zch ((w.alloc (zC #[zL B b.kp.length c,.bool b.kr] 56)).alloc (zC #[zL A h.kp.length a,.bool h.kr] 56)) (w.heap.size+1) (zL A h.kp.length a) h.kr:=by
    have:=z0l (w.alloc (zC #[zL B b.kp.length c,.bool b.kr] 56)) [zL A h.kp.length a,.bool h.kr] 56;rw[Zl] at this;exact this
  have HP:=hd_ hh;have HQ:=hd_ hb;have HCN:=hd_ (fun X=>zsg h n A a X);have HFO:=hd_ (Zi (fun k (hk:k<h.kp.length)=>zd5 hhe hk) (zsh hbe));have hl:=zcc hhe;clear hh hb;have HPZ:Hid (∀ k,(zlv b k).size<=30000000):=hd_ (fun k=>by
    unfold zlv;cases hk:b.kp[k]? with
    | none=>decide
    | some s=>exact HQ.2 s (List.mem_of_getElem? hk))
  obtain⟨rc,hrc⟩:∃ rc,zhk h n=rc:=⟨_,rfl⟩;rw[hrc] at HCN |-;clear hrc;go_enter func141,ntmps141;go_upto_region 1 with fail;generalize (w.alloc (zC #[zL B b.kp.length c,.bool b.kr] 56)).alloc (zC #[zL A h.kp.length a,.bool h.kr] 56)=W0 at hA h2 h3 |-;have x0:=h2.c0;have x1:=h2.c1;have H:=hd_ (Zi hA (Zi h2 h3));clear hA h2 h3;go_wp2_with fail;refine (HCN _).mono ?_;rintro e W1 ⟨rfl,hb1⟩;dsimp only;have H:=hd_ (Zi (z0r H.out.1 hb1) (Zi (H.out.2.1.low hb1) (H.out.2.2.low hb1)));clear x0 x1 hb1;cases rc with
  | false =>
    go_wp2_with fail;go_ret;exact⟨rfl,H.1⟩
  | true =>
    go_wp2_with fail;go_loopw [2] (fun i wr=>∃ k:Nat,i=zI k/\k<=h.kp.length/\Hid (zB W1 wr/\∀ i (hi:i<h.kp.length),i<k->zbl (zlv b i) h.kp[i]=true)) (fun i _=>h.kp.length - (intOf i).toNat)
    exact⟨0,rfl,Zg _,hd_ ⟨Zb _ _,fun i _ h0=>absurd h0 (Nat.not_lt_zero _)⟩⟩
    obtain⟨k,rfl,hk,HI⟩:=hrel;have HB:=hd_ (z0r H.1 HI.1);have x0:=(H.out.2.1.low HI.out.1).c0;by_cases h1:k<n
    · have q1:decide ((k:Int)<(n:Int))=true:=decide_eq_true (by omega)
      by_cases hlt:k<h.kp.length
      · have q2:decide ((k:Int)<(h.kp.length:Int))=true:=decide_eq_true (by omega)
        obtain⟨ad,rfl,hab,s0⟩:=z20.at_ (HP.out.kw HB.out).1 hlt;have y0:=(H.out.2.2.low HI.out.1).c0;have y1:=(H.out.2.2.low HI.out.1).c1;have e0:=cell_regrown x0;have e1:=cell_regrown y0;have e2:=cell_regrown y1;have e3:=cell_regrown s0;have hsz:=HP.out.2 h.kp[k] (Za _);have HNX:=hd_ (fun(hw:zbl (zlv b k) h.kp[k]=true)=>(fun i hi h0=>if e:i=k then by subst e;exact hw else HI.2 i hi (by omega):∀ i (hi:i<h.kp.length),i<k+1->zbl (zlv b i) h.kp[i]=true))
        have hno:zbl (zlv b k) h.kp[k]=false->zlw b h n=false:=fun hw=>by
          cases hc:zlw b h n with
          | false=>rfl
          | true =>
            have:=zlz.1 hc k hlt h1;rw[hw] at this;cases this
        have HNO:=hd_ hno;clear hno;have hf1:=HFO.out.1 k hlt;generalize h.kp[k]=s at s0 e3 hsz HNX HNO hf1;have cP:∀ d os,Calls prog 189 #[.agg #[zL B b.kp.length c,.bool b.kr],zI k] (grow (redrawn wr d) os) fun e w''=>e=.returned (zS (zlv b k))/\∃ p:Regrown,w''=grow (redrawn wr p.d) p.os:=fun d os=>Calls.regrown_of (rPartW b k B c _ ((HQ.kw HB).kw (below_regrown _ d os)).1);have hpz:=HPZ.out k;have hf2:=HFO.out.2 k;generalize zlv b k=t at cP hpz HNX HNO hf2;have cW:∀ d os,Calls prog 91 #[zS t,zS s] (grow (redrawn wr d) os) fun e w''=>e=.returned (.bool (zbl t s))/\∃ p:Regrown,w''=grow (redrawn wr p.d) p.os:=fun d os=>Calls.regrown_of (zpi t s _ hf2 hf1 hpz hsz);generalize zbl t s=ok at cW HNX HNO;have hz:(k:Int)<(h.kp.length:Int):=by omega
        have HLT:=hd_ hlt;clear hab hpz hsz hf1 hf2;cases ok
        all_goals
          go_wp2_with fail;refine wp_region_quiet_below (by kernel_rfl) (by kernel_rfl) ?_
          repeat (first | go_big_quiet_step (with_reducible exact cP _ _) | quiet_step (with_reducible exact cP _ _) | go_big_quiet_step (with_reducible exact cW _ _) | quiet_step (with_reducible exact cW _ _))
          refine wpQuiet_nil ?_;intro _ hw9;obtain⟨⟨dq,osq⟩,hw9⟩:=hw9;subst hw9;have HB4:=hd_ (HI.1.trans ((below_regrown wr dq osq).mono HI.1.size));generalize grow (redrawn wr dq) osq=W5 at HB4 |-;clear x0 y0 y1 s0 e0 e1 e2 e3 cP cW q1 q2;go_wp2_with fail;first
            | (go_roundw
               exact⟨k+1,by go_num,by omega,hd_ ⟨HB4,HNX (by first | rfl | trivial)⟩⟩
               simp [intOf];omega)
            | (go_ret
               exact⟨by rw[HNO.out (by first | rfl | trivial)];rfl,z0r H.1 HB4⟩)
      · have q2:decide ((k:Int)<(h.kp.length:Int))=false:=decide_eq_false (by omega)
        have HY:Hid (zlw b h n=true):=hd_ (zlz.2 fun i hi _=>HI.2 i hi (by omega))
        go_wp2_with fail;go_ret;exact⟨by rw[HY.out];rfl,HB⟩
    · have q1:decide ((k:Int)<(n:Int))=false:=decide_eq_false (by omega)
      have HY:Hid (zlw b h n=true):=hd_ (zlz.2 fun i hi h0=>HI.2 i hi (by omega))
      go_wp2_with fail;go_ret;exact⟨by rw[HY.out];rfl,HB⟩
