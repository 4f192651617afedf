/- A part. -/
import Derived.Test.YtlnjaagijaadmaaGreatDoorMxAlE
import Derived.Test.YtlnjaagijaadmaaGreatDoorMvw11
set_option linter.unusedVariables false
set_option linter.unusedSimpArgs false
set_option maxHeartbeats 8000000
set_option maxRecDepth 100000
namespace Go.Proofs.YtlnjaagijaadmaaGreatDoor
open Go.Proofs.Tryz
open Go.RowKit
theorem z48 (w:zW)(n:Nat):zB w (w.drewN n):=⟨rfl,rfl,rfl,Zd _,fun _ _=>rfl⟩
structure z49 (S:List Nat)(w w':zW):Prop where
 os:w'.os=w.os
 tape:w'.tape=w.tape
 output:w'.output=w.output
 size:w.heap.size<=w'.heap.size
 block:∀ k,k<w.heap.size->k∉S->w'.heap[k]? = w.heap[k]?
theorem z49.kw {S:List Nat}{w w':zW}(h:zB w w'):z49 S w w':=⟨h.os,h.tape,h.output,h.size,fun k hk _=>h.block k hk⟩
theorem z49.grown {S:List Nat}{w w':zW}{g:Nat}(h:w.grownBy w' (some g))(hg:g∈S):z49 S w w':=⟨h.os,h.tape,h.output,h.size,fun k hk hs=>h.block k hk (by intro e;injection e with e;subst e;exact hs hg)⟩
theorem z49.trans {S:List Nat}{w w1 w2:zW}(h:z49 S w w1)(h2:z49 S w1 w2):z49 S w w2:=
 ⟨h2.os.trans h.os,h2.tape.trans h.tape,h2.output.trans h.output,Zf h.size h2.size,fun k hk hs=>(h2.block k (Zq hk h.size) hs).trans (h.block k hk hs)⟩
theorem z49.to_below {S:List Nat}{w w':zW}{B:Nat}(h:z49 S w w')(hS:∀ s∈S,B<=s)(hB:B<=w.heap.size):Below B w w':=
 ⟨h.os,h.tape,h.output,h.size,fun k hk=>h.block k (Zq hk hB) (fun hs=>by have:=hS k hs;omega)⟩
theorem z49.blk {S:List Nat}{w w':zW}{g:Nat}{e:TypeId}{cs:List zV}(h:z49 S w w')(hB:Blk w g e cs)(hg:g∉S):Blk w' g e cs:=(h.block g (Blk.lt hB) hg).trans hB
theorem z49.fmap {κ α:Type}[BEq κ]{kv:κ->zV}{enc:α->zV}{S:List Nat}{w w':zW}{B:Nat}{F:κ->Option α}(h:z49 S w w')(hM:z2l kv enc w B F)(hg:B∉S):z2l kv enc w' B F:=hM.keep (h.block B hM.lt hg)
theorem Row.set_far {w:zW}{size n g i:Nat}{v u:zV}{xs:List zV}(h:Row w size v n xs)(hne:v.ownBlock≠some g):Row (w.setCell ⟨g,i,none⟩ u) size v n xs:=by
 obtain⟨A,c,rfl,hc,hm,hl,h0,hx⟩:=h;refine⟨A,c,rfl,hc,hm,hl,h0,fun hn=>?_⟩;obtain⟨ad,rfl,hb,hcell⟩:=hx hn;refine⟨ad,rfl,by simpa [World.setCell] using hb,fun j u' hu=>?_⟩
 rw[<- hcell j u' hu];refine World.cell?_of_block (Ya w _ _ _ ?_);rw[z00];intro e;exact hne (congrArg some e)
theorem Row.kept {S:List Nat}{w X:zW}{size n c:Nat}{ad:Addr}{xs:List zV}(h:Row w size (zL (some ad) n c) n xs)(hK:z49 S w X)(hb:ad.block∉S):Row X size (zL (some ad) n c) n xs:=by
 obtain⟨A,c',e,hc,hm,hl,h0,hx⟩:=h;injection e with e1 e2 e3
 subst e3;refine⟨some ad,c,rfl,hc,hm,hl,(fun h=>by cases h),fun hn=>?_⟩
 obtain⟨ad',e4,hb',hcell⟩:=hx hn;rw[<- e1] at e4;injection e4 with e4
 subst e4;refine⟨ad,rfl,Zq hb' hK.size,fun j u' hu=>?_⟩;rw[<- hcell j u' hu];refine World.cell?_of_block ?_;rw[z00];exact hK.block _ hb' hb
theorem z4a (w:zW)(g i:Nat)(u:zV):w.grownBy (w.setCell ⟨g,i,none⟩ u) (some g):=
 ⟨rfl,rfl,rfl,by simp,fun k _ hk=>Ya w ⟨g,i,none⟩ u k (fun e=>hk (by rw[e]))⟩
def natV (n:Nat):zV:=zI n
def z58 (w:zW)(B:Nat)(cnt:zA->Nat):Prop:=∃ f,z2l zS natV w B f/\∀ p,(f p).getD 0=cnt p
theorem z59 (w:zW):(zeroValue 3).run prog w=.ok (natV 0) w:=by kernel_rfl
section
variable {w w' : zW} {B : Nat} {cnt : zA -> Nat}
theorem z58.new (w:zW):z58 (w.alloc (.map #[] 0)) w.heap.size (fun _=>0):=⟨_,z2l.new _ _ w,fun _=>rfl⟩
theorem z58.alloc (h:z58 w B cnt)(o:Obj):z58 (w.alloc o) B cnt:=by obtain⟨f,h,r⟩:=h;exact⟨f,h.alloc o,r⟩
theorem z58.lt (h:z58 w B cnt):B<w.heap.size:=by obtain⟨f,h,r⟩:=h;exact h.lt
theorem z58.look (h:z58 w B cnt)(p:zA):(Instr.lookup 196 (.map (some B)) (zS p) false).run prog w=.ok (zI (cnt p)) w:=by
 obtain⟨f,h,r⟩:=h;rw[z2l.lookup h z4w underlying196 (z59 w) p false,<- r p];unfold z2n;cases f p <;> rfl
end
structure zdd (w wr:zW)(g4 g11:Nat)(v:zV)(b:Bool)(l:List zA):Prop where
 low:zB w wr
 le4:w.heap.size<=g4
 le:g4<g11
 box4:zch wr g4 (zL none 0 0) false
 box:zch wr g11 v b
 own:wr.ownsRow w.heap.size 9 1 v l.length (l.map .string)
 ne4:v.ownBlock≠some g4
 ne:v.ownBlock≠some g11
theorem zdd.ku {w wr wx:zW}{g4 g11:Nat}{v:zV}{b:Bool}{l:List zA}(h:zdd w wr g4 g11 v b l)(hb:zB wr wx):zdd w wx g4 g11 v b l:=⟨z0r h.low hb,h.le4,h.le,h.box4.low hb,h.box.low hb,z0n h.own hb,h.ne4,h.ne⟩
theorem zdd.app {w wr w2:zW}{g4 g11:Nat}{v:zV}{b:Bool}{l m:List zA}{A':zP}{c' n:Nat}(h:zdd w wr g4 g11 v b l)(hn:n=l.length+m.length)
  (hown:w2.ownsRow w.heap.size 9 1 (zL A' n c') n (l.map .string++m.map .string)) (hgr:wr.grownBy w2 v.ownBlock)
  (hob:(zL A' n c').ownBlock=v.ownBlock\/(zL A' n c').ownBlock=some wr.heap.size):
  zdd w (w2.setCell ⟨g11,0,none⟩ (zL A' n c')) g4 g11 (zL A' n c') b (l++m):=by
 have l4:=Blk.lt h.box4;have l11:=Blk.lt h.box;have n4:(zL A' n c').ownBlock≠some g4:=by
  rcases hob with e | e
  ·rw[e];exact h.ne4
  ·rw[e];intro e2;injection e2 with e2;omega
 have n11:(zL A' n c').ownBlock≠some g11:=by
  rcases hob with e | e
  ·rw[e];exact h.ne
  ·rw[e];intro e2;injection e2 with e2;omega
 have hlt:=h.le;have hl4:=h.le4;refine⟨(h.low.grown hgr h.low.size (fun k e=>(h.own.lt k e).1)).setCell (p:=⟨g11,0,none⟩) (by show w.heap.size<=g11;omega) _,h.le4,h.le,Blk.far (Blk.grown h.box4 hgr (fun e=>h.ne4 e.symm)) (by show g11≠g4;omega) _,(Blk.grown h.box hgr (fun e=>h.ne e.symm)).set_ 0 _,?_,n4,n11⟩
 have hl:(l++m).length=n:=by rw[Zc,hn]
 rw[hl,Zs];exact z5c hown (p:=⟨g11,0,none⟩) n11 _
abbrev PatM:=Pat×zP×Nat
def PatM.v (q:PatM):zV:=zL q.2.1 q.1.kp.length q.2.2
def PatM.cells (q:PatM):List zV:=[q.v,.bool q.1.kr]
def HolesIn (w:zW)(v:zV)(hs:List PatM):Prop:=Row w 2 v hs.length (hs.flatMap PatM.cells)/\∀ q∈hs,zbx w q.v q.1
theorem HolesIn.kw {w w':zW}{v:zV}{hs:List PatM}(h:HolesIn w v hs)(hb:zB w w'):HolesIn w' v hs:=⟨Row.kw h.1 hb,fun q hq=>(h.2 q hq).kw hb⟩
theorem HolesIn.at_ {w:zW}{A:zP}{c:Nat}{hs:List PatM}(h:HolesIn w (zL A hs.length c) hs){k:Nat}(hk:k<hs.length):
  ∃ ad,A=some ad/\ad.block<w.heap.size/\w.cell? (ad.add (k * 2))=some hs[k].v/\w.cell? ⟨(ad.add (k * 2)).block,(ad.add (k * 2)).off+1,none⟩=some (.bool hs[k].1.kr):=by
 obtain⟨ad,e,hb,hc⟩:=z3z (f:=PatM.cells) (n:=2) (fun _=>rfl) h.1 hk;exact⟨ad,e,hb,hc 0 _ (by rfl),hc 1 _ (by rfl)⟩
def zdf (b:Pat)(hs:List PatM):Int:=if z8w b≠0 then 50 else if (hs.all fun q=>decide (z8w q.1=0))=false then 51 else if 64<hs.length then 52 else 0
theorem zdg {b:Pat}{hs:List PatM}(h:z8w b≠0):zdf b hs=50:=if_pos h
theorem zdh {b:Pat}{hs:List PatM}{k:Nat}(hb:z8w b=0)(hk:k<hs.length)(h:z8w hs[k].1≠0):zdf b hs=51:=by
 unfold zdf;rw[if_neg (by rw[hb];simp),if_pos]
 rw[Bool.eq_false_iff];intro ha;exact h (by simpa using ZB.1 ha _ (Za hk))
theorem zdi {b:Pat}{hs:List PatM}(hb:z8w b=0)(h:∀ j (hj:j<hs.length),z8w hs[j].1=0):zdf b hs=if 64<hs.length then 52 else 0:=by
 unfold zdf;rw[if_neg (by rw[hb];simp),if_neg]
 rw[Bool.not_eq_false];refine ZB.2 fun q hq=>?_;obtain⟨j,hj,rfl⟩:=ZF hq;simpa using h j hj
theorem zdj (b:Pat)(hs:List PatM)(A H:zP)(a c:Nat)(w:zW)(hb:zbx w (zL A b.kp.length a) b)(hh:HolesIn w (zL H hs.length c) hs)(hl:hs.length<=1000000):
  Calls prog 95 #[.agg #[zL A b.kp.length a,.bool b.kr,zL H hs.length c]] w fun e w'=>e=.returned (zI (zdf b hs))/\zB w w':=by
 have hB:=z0l w [zL A b.kp.length a,.bool b.kr,zL H hs.length c] 66;have hA:zB w (w.alloc (zC #[zL A b.kp.length a,.bool b.kr,zL H hs.length c] 66)):=zR;have HC:=hd_ (fun X (hX:zB w X)=>z99 b A a X (hb.kw hX).1 hb.small);have HH:=hd_ hh;have HN1:=hd_ (@zdg b hs);have HN2:=hd_ (fun k=>@zdh b hs k);have HN3:=hd_ (@zdi b hs);clear hb hh;go_enter func95,ntmps95;go_upto_region 1 with fail;generalize w.alloc (zC #[zL A b.kp.length a,.bool b.kr,zL H hs.length c] 66)=W1 at hA hB |-;obtain⟨d0,d1⟩:=(⟨hB.cell 0,hB.cell 1⟩:W1.cell? ⟨w.heap.size,0,none⟩=some (.slice A b.kp.length a)/\W1.cell? ⟨w.heap.size,1,none⟩=some (.bool b.kr));have HB:=hd_ hB;have HA:=hd_ hA;have HC1:=hd_ (HC W1 hA);clear hA hB HC;obtain⟨pe,hpe⟩:∃ pe,z8w b=pe:=⟨_,rfl⟩;have HPE:=hd_ hpe;rw[hpe] at HC1;clear hpe;by_cases h0:pe=0
 case neg =>
  have q:(pe != 0)=true:=by simpa using h0
  have HR:=hd_ (HN1 (by rw[HPE.out];exact h0))
  clear h0;go_wp2_with fail;refine HC1.mono ?_;rintro e w2 ⟨rfl,hb⟩;have HB2:=hd_ (z0r HA hb);clear hb d0 d1;go_wp2_with fail;go_ret;exact⟨z91 HR.symm,HB2⟩
 subst h0;go_wp2_with fail;refine HC1.mono ?_;rintro e w2 ⟨rfl,hb⟩;have HA:=hd_ (z0r HA hb);have HB:=hd_ (HB.kw hb HB.lt);clear hb d0 d1 HC1;have d2:w2.cell? ⟨w.heap.size,2,none⟩=some (.slice H hs.length c):=HB.cell 2;go_wp2_with fail;go_loopw [12] (fun i wr=>∃ k:Nat,i=zI k/\k<=hs.length/\Hid ((∀ j (hj:j<hs.length),j<k->z8w hs[j].1=0)/\zB w2 wr)) (fun i _=>hs.length - (intOf i).toNat)
 exact⟨0,rfl,Zg _,hd_ ⟨fun j _ h=>by omega,Zb _ _⟩⟩
 obtain⟨k,rfl,hk,HI⟩:=hrel;clear d2;by_cases hlt:k<hs.length
 ·have HHX:=hd_ (HH.kw (z0r HA HI.2));obtain⟨ad,rfl,hab,s0,s1⟩:=HHX.out.at_ hlt;have HPK:=hd_ (HHX.2 hs[k] (Za hlt));have HNO:=hd_ (HN2 k HPE hlt);have HYE:Hid (z8w hs[k].1=0->∀ j (hj:j<hs.length),j<k+1->z8w hs[j].1=0):=hd_ (fun h j hj hjk=>by
   by_cases e:j=k
   ·subst e;exact h
   ·exact HI.1 j hj (by omega))
  generalize hs[k]=q at s0 s1 HPK HNO HYE;obtain⟨q,Aq,cq⟩:=q;change wr.cell? _=some (.slice Aq q.kp.length cq) at s0;change wr.cell? _=some (.bool q.kr) at s1;have hX:zB w2 (wr.alloc (zC #[zL Aq q.kp.length cq,.bool q.kr] 56)):=HI.2.alloc HI.2.size _;have hbq:zB wr (wr.alloc (zC #[zL Aq q.kp.length cq,.bool q.kr] 56)):=zR;have HCQ:=hd_ (z99 q Aq cq (wr.alloc (zC #[zL Aq q.kp.length cq,.bool q.kr] 56)) (HPK.kw hbq).1 HPK.small);have HX:=hd_ hX;clear hab hX hbq;obtain⟨qe,hqe⟩:∃ qe,z8w q=qe:=⟨_,rfl⟩;have HQE:=hd_ hqe;rw[hqe] at HCQ;clear hqe;have HLT:=hd_ hlt;by_cases h1:qe=0
  ·subst h1;have HN:=hd_ (HYE HQE);go_wp2_with fail;refine HCQ.mono ?_;rintro e w4 ⟨rfl,hb⟩;have HB4:=hd_ (z0r HX hb);clear hb s0 s1;go_wp2_with fail;go_roundw
   exact⟨k+1,by go_num,by omega,hd_ ⟨HN,HB4⟩⟩
   simp [intOf];omega
  ·have hq:(qe != 0)=true:=by simpa using h1
   have HR:=hd_ (HNO (by show z8w q≠0;rw[HQE.out];exact h1))
   clear h1;go_wp2_with fail;refine HCQ.mono ?_;rintro e w4 ⟨rfl,hb⟩;have HB4:=hd_ (z0r HA (z0r HX hb));clear hb s0 s1;go_wp2_with fail;go_ret;exact⟨z91 HR.symm,HB4⟩
 ·have hke:k=hs.length:=by omega
  subst hke;have HE:=hd_ (HN3 HPE (fun j hj=>HI.1 j hj hj));have HBE:=hd_ (z0r HA HI.2);have d2:wr.cell? ⟨w.heap.size,2,none⟩=some (.slice H hs.length c):=(HB.kw HI.2 HB.lt).cell 2;have hge:¬((hs.length:Int)<(hs.length:Int)):=by omega
  by_cases h6:64<hs.length
  ·have q6:decide ((64:Int)<(hs.length:Int))=true:=by simp;omega
   have q7:(64:Int)<(hs.length:Int):=by omega
   have HR:=hd_ (HE.trans (if_pos h6));clear h6;go_wp2_with fail;go_ret;exact⟨z91 HR.symm,HBE⟩
  ·have q6:decide ((64:Int)<(hs.length:Int))=false:=by simp;omega
   have q7:¬(64:Int)<(hs.length:Int):=by omega
   have HR:=hd_ (HE.trans (if_neg h6));clear h6;go_wp2_with fail;go_ret;exact⟨z91 HR.symm,HBE⟩
structure zdk where
 l:PatM
 r:PatM
 hv:zV
 hs:List PatM
def zdk.cells (x:zdk):List zV:=[x.l.v,.bool x.l.1.kr,x.r.v,.bool x.r.1.kr,x.hv]
def zdk.val (x:zdk):zV:=.agg #[x.l.v,.bool x.l.1.kr,x.r.v,.bool x.r.1.kr,x.hv]
structure zdl (w:zW)(x:zdk):Prop where
 l:zbx w x.l.v x.l.1
 r:zbx w x.r.v x.r.1
 h:HolesIn w x.hv x.hs
 n:x.hs.length<=1000000
theorem zdl.kw {w w':zW}{x:zdk}(h:zdl w x)(hb:zB w w'):zdl w' x:=⟨h.l.kw hb,h.r.kw hb,h.h.kw hb,h.n⟩
theorem zdm (A B:zP)(n m a b:Nat)(x y:Bool)(h0:zV)(w:zW):Calls prog 94 #[.agg #[(zL A n a),(.bool x),(zL B m b),(.bool y),h0]] w fun e w'=>e=.returned (.agg #[.bool false,(zL A n a),(.bool x),(zL B m b),(.bool y)])/\zB w w':=by
 have hB:=z0l w [(zL A n a),(.bool x),(zL B m b),(.bool y),h0] 59;have hA:zB w (w.alloc (zC #[(zL A n a),(.bool x),(zL B m b),(.bool y),h0] 59)):=zR;go_enter func94,ntmps94;go_upto_region 1 with fail;have hZ:=z0l (w.alloc (zC #[(zL A n a),(.bool x),(zL B m b),(.bool y),h0] 59)) [.bool false,zL none 0 0,.bool false,zL none 0 0,.bool false] 62;rw[Zl] at hZ;have hB1:=hB.alloc (zC #[.bool false,zL none 0 0,.bool false,zL none 0 0,.bool false] 62);have hA1:=hA.alloc (by simp:w.heap.size<=_) (zC #[.bool false,zL none 0 0,.bool false,zL none 0 0,.bool false] 62)
 generalize (w.alloc (zC #[(zL A n a),(.bool x),(zL B m b),(.bool y),h0] 59)).alloc (zC #[.bool false,zL none 0 0,.bool false,zL none 0 0,.bool false] 62)=W1 at hZ hB1 hA1 |-;obtain⟨d0,d1,d2,d3⟩:=(⟨hB1.cell 0,hB1.cell 1,hB1.cell 2,hB1.cell 3⟩:W1.cell? ⟨w.heap.size,0,none⟩=some (.slice A n a)/\W1.cell? ⟨w.heap.size,1,none⟩=some (.bool x)/\W1.cell? ⟨w.heap.size,2,none⟩=some (.slice B m b)/\W1.cell? ⟨w.heap.size,3,none⟩=some (.bool y));obtain⟨z0,z1,z2,z3,z4⟩:=(⟨hZ.cell 0,hZ.cell 1,hZ.cell 2,hZ.cell 3,hZ.cell 4⟩:W1.cell? ⟨w.heap.size+1,0,none⟩=some (.bool false)/\W1.cell? ⟨w.heap.size+1,1,none⟩=some (.slice none 0 0)/\W1.cell? ⟨w.heap.size+1,2,none⟩=some (.bool false)/\W1.cell? ⟨w.heap.size+1,3,none⟩=some (.slice none 0 0)/\W1.cell? ⟨w.heap.size+1,4,none⟩=some (.bool false));obtain⟨y0,y1,y2,y3,y4⟩:=(⟨hZ.frozen 0,hZ.frozen 1,hZ.frozen 2,hZ.frozen 3,hZ.frozen 4⟩:W1.frozen? ⟨w.heap.size+1,0,none⟩=false/\W1.frozen? ⟨w.heap.size+1,1,none⟩=false/\W1.frozen? ⟨w.heap.size+1,2,none⟩=false/\W1.frozen? ⟨w.heap.size+1,3,none⟩=false/\W1.frozen? ⟨w.heap.size+1,4,none⟩=false);go_wp2_with fail;have hE:=((((hZ.set_ 0 (.bool false)).set_ 1 (zL A n a)).set_ 2 (.bool x)).set_ 3 (zL B m b)).set_ 4 (.bool y);have hb:=((((hA1.setCell (p:=⟨w.heap.size+1,0,none⟩) (by simp) (.bool false)).setCell (p:=⟨w.heap.size+1,1,none⟩) (by simp) (zL A n a)).setCell (p:=⟨w.heap.size+1,2,none⟩) (by simp) (.bool x)).setCell (p:=⟨w.heap.size+1,3,none⟩) (by simp) (zL B m b)).setCell (p:=⟨w.heap.size+1,4,none⟩) (by simp) (.bool y)
 generalize ((((W1.setCell ⟨w.heap.size+1,0,none⟩ (.bool false)).setCell ⟨w.heap.size+1,1,none⟩ (zL A n a)).setCell ⟨w.heap.size+1,2,none⟩ (.bool x)).setCell ⟨w.heap.size+1,3,none⟩ (zL B m b)).setCell ⟨w.heap.size+1,4,none⟩ (.bool y)=W3 at hE hb |-;have e0:=hE.cell 0;have e1:=hE.cell 1;have e2:=hE.cell 2;have e3:=hE.cell 3;have e4:=hE.cell 4;exact bodyPost_ret (v:=.agg #[.bool false,zL A n a,.bool x,zL B m b,.bool y]) (by simp [results,results94,go_sem,e0,e1,e2,e3,e4]) rfl ⟨rfl,hb⟩
theorem zdn (A H:zP)(n a k c:Nat)(x y:Bool)(r0:zV)(w:zW):Calls prog 49 #[.agg #[zL A n a,.bool x,r0,.bool y,zL H k c]] w fun e w'=>e=.returned (.agg #[zL A n a,.bool x,zL H k c])/\zB w w':=by
 have hB:=z0l w [zL A n a,.bool x,r0,.bool y,zL H k c] 59;have hA:zB w (w.alloc (zC #[zL A n a,.bool x,r0,.bool y,zL H k c] 59)):=zR;go_enter func49,ntmps49;go_upto_region 1 with fail;have hZ:=z0l (w.alloc (zC #[zL A n a,.bool x,r0,.bool y,zL H k c] 59)) [zL none 0 0,.bool false,zL none 0 0] 66;rw[Zl] at hZ;have hB1:=hB.alloc (zC #[zL none 0 0,.bool false,zL none 0 0] 66);have hA1:=hA.alloc (by simp:w.heap.size<=_) (zC #[zL none 0 0,.bool false,zL none 0 0] 66)
 generalize (w.alloc (zC #[zL A n a,.bool x,r0,.bool y,zL H k c] 59)).alloc (zC #[zL none 0 0,.bool false,zL none 0 0] 66)=W1 at hZ hB1 hA1 |-;obtain⟨d0,d1,d4⟩:=(⟨hB1.cell 0,hB1.cell 1,hB1.cell 4⟩:W1.cell? ⟨w.heap.size,0,none⟩=some (.slice A n a)/\W1.cell? ⟨w.heap.size,1,none⟩=some (.bool x)/\W1.cell? ⟨w.heap.size,4,none⟩=some (.slice H k c));obtain⟨z0,z1,z2⟩:=(⟨hZ.cell 0,hZ.cell 1,hZ.cell 2⟩:W1.cell? ⟨w.heap.size+1,0,none⟩=some (.slice none 0 0)/\W1.cell? ⟨w.heap.size+1,1,none⟩=some (.bool false)/\W1.cell? ⟨w.heap.size+1,2,none⟩=some (.slice none 0 0));obtain⟨y0,y1,y2⟩:=(⟨hZ.frozen 0,hZ.frozen 1,hZ.frozen 2⟩:W1.frozen? ⟨w.heap.size+1,0,none⟩=false/\W1.frozen? ⟨w.heap.size+1,1,none⟩=false/\W1.frozen? ⟨w.heap.size+1,2,none⟩=false);go_wp2_with fail;have hE:=((hZ.set_ 0 (zL A n a)).set_ 1 (.bool x)).set_ 2 (zL H k c);have hb:=((hA1.setCell (p:=⟨w.heap.size+1,0,none⟩) (by simp) (zL A n a)).setCell (p:=⟨w.heap.size+1,1,none⟩) (by simp) (.bool x)).setCell (p:=⟨w.heap.size+1,2,none⟩) (by simp) (zL H k c)
 generalize ((W1.setCell ⟨w.heap.size+1,0,none⟩ (zL A n a)).setCell ⟨w.heap.size+1,1,none⟩ (.bool x)).setCell ⟨w.heap.size+1,2,none⟩ (zL H k c)=W3 at hE hb |-;have e0:=hE.cell 0;have e1:=hE.cell 1;have e2:=hE.cell 2;exact bodyPost_ret (v:=.agg #[zL A n a,.bool x,zL H k c]) (by simp [results,results49,go_sem,e0,e1,e2]) rfl ⟨rfl,hb⟩
theorem zer:z2r.toList=[]:=by rw[ByteArray.toList_eq];rfl
theorem zes {s:zA}(h:s=z2r):s.toList=[]:=by subst h;exact zer
theorem zet {s:zA}(h:s≠z2r):¬ s.toList=[]:=by
 intro e;apply h
 rw[<- toList_inj,e,zer]
theorem zeu {s:zA}(h:s≠z2r):s.toList.isEmpty=false:=by
 have:=zet h;cases hs:s.toList with
 | nil=>exact absurd hs this
 | cons a l=>rfl
theorem zev (a b:zA):(a.toList == b.toList)=decide (a=b):=by
 rw[ZY,beq_iff_eq,decide_eq_true_eq,toList_inj]
theorem zh3 (x:Int):(x == 0)=decide (x=0):=by rw[ZY,beq_iff_eq,decide_eq_true_eq]
theorem zh4 (l r:Pat)(hs:List PatM)(A B H:zP)(a b c:Nat)(w:zW)(hl:zbx w (zL A l.kp.length a) l)(hr:zbx w (zL B r.kp.length b) r)(hh:HolesIn w (zL H hs.length c) hs)(hn:hs.length<=1000000):
  Calls prog 46 #[.agg #[zL A l.kp.length a,.bool l.kr,zL B r.kp.length b,.bool r.kr,zL H hs.length c]] w fun e w'=>e=.returned (.bool (decide (zbw l r=0) && decide (zdf l hs=0)))/\zB w w':=by
 have hB:=z0l w [zL A l.kp.length a,.bool l.kr,zL B r.kp.length b,.bool r.kr,zL H hs.length c] 59;have hA:zB w (w.alloc (zC #[zL A l.kp.length a,.bool l.kr,zL B r.kp.length b,.bool r.kr,zL H hs.length c] 59)):=zR;have HLI:=hd_ (fun X=>zdm A B l.kp.length r.kp.length a b l.kr r.kr (zL H hs.length c) X);have HLE:=hd_ (fun X=>zdn A H l.kp.length a hs.length c l.kr r.kr (zL B r.kp.length b) X);have HRC:=hd_ (fun X (hX:zB w X)=>zby false l r A B a b X (hl.kw hX) (hr.kw hX));have HGC:=hd_ (fun X (hX:zB w X)=>zdj l hs A H a c X (hl.kw hX) (hh.kw hX) hn);obtain⟨re,hre⟩:∃ re,zbw l r=re:=⟨_,rfl⟩;obtain⟨ge,hge⟩:∃ ge,zdf l hs=ge:=⟨_,rfl⟩;rw[hre] at HRC |-;rw[hge] at HGC |-;clear hl hr hh hn hre hge;go_enter func46,ntmps46;go_upto_region 1 with fail;generalize w.alloc (zC #[zL A l.kp.length a,.bool l.kr,zL B r.kp.length b,.bool r.kr,zL H hs.length c] 59)=W1 at hA hB |-;obtain⟨d0,d1,d2,d3,d4⟩:=(⟨hB.cell 0,hB.cell 1,hB.cell 2,hB.cell 3,hB.cell 4⟩:W1.cell? ⟨w.heap.size,0,none⟩=some (.slice A l.kp.length a)/\W1.cell? ⟨w.heap.size,1,none⟩=some (.bool l.kr)/\W1.cell? ⟨w.heap.size,2,none⟩=some (.slice B r.kp.length b)/\W1.cell? ⟨w.heap.size,3,none⟩=some (.bool r.kr)/\W1.cell? ⟨w.heap.size,4,none⟩=some (.slice H hs.length c));have HB:=hd_ hB;have HA:=hd_ hA;clear hA hB;go_wp2_with fail;refine (HLI W1).mono ?_;rintro e w2 ⟨rfl,hb⟩;have HA2:=hd_ (z0r HA hb);have HB2:=hd_ (HB.kw hb HB.lt);clear hb d0 d1 d2 d3 d4;by_cases h0:re=0
 ·subst h0;go_wp2_with fail;refine (HRC w2 HA2).mono ?_;rintro e w3 ⟨rfl,hb⟩;have HA3:=hd_ (z0r HA2 hb);have hB3:=HB2.out.kw hb HB2.out.lt;clear hb;obtain⟨d0,d1,d2,d3,d4⟩:=(⟨hB3.cell 0,hB3.cell 1,hB3.cell 2,hB3.cell 3,hB3.cell 4⟩:w3.cell? ⟨w.heap.size,0,none⟩=some (.slice A l.kp.length a)/\w3.cell? ⟨w.heap.size,1,none⟩=some (.bool l.kr)/\w3.cell? ⟨w.heap.size,2,none⟩=some (.slice B r.kp.length b)/\w3.cell? ⟨w.heap.size,3,none⟩=some (.bool r.kr)/\w3.cell? ⟨w.heap.size,4,none⟩=some (.slice H hs.length c));clear hB3;go_wp2_with fail;refine (HLE w3).mono ?_;rintro e w4 ⟨rfl,hb⟩;have HA4:=hd_ (z0r HA3 hb);clear hb d0 d1 d2 d3 d4;go_wp2_with fail;refine (HGC w4 HA4).mono ?_;rintro e w5 ⟨rfl,hb⟩;have HA5:=hd_ (z0r HA4 hb);clear hb;go_wp2_with fail;go_ret;exact⟨by rw[<- zh3 ge];rfl,HA5⟩
 ·have q1:(re == 0)=false:=by simpa using h0
  have HD:=hd_ (decide_eq_false h0);clear h0;go_wp2_with fail;refine (HRC w2 HA2).mono ?_;rintro e w3 ⟨rfl,hb⟩;have HA3:=hd_ (z0r HA2 hb);clear hb;go_wp2_with fail;go_ret;exact⟨by rw[HD.out];rfl,HA3⟩
