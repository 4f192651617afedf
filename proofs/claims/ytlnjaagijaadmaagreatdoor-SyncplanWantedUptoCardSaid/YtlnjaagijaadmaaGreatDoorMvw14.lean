/- A part. -/
import Derived.Test.YtlnjaagijaadmaaGreatDoorMvw13
import Derived.Test.YtlnjaagijaadmaaGreatDoorMxAlF
import Derived.Test.YtlnjaagijaadmaaGreatDoorMvw12
set_option linter.unusedVariables false
set_option linter.unusedSimpArgs false
set_option maxHeartbeats 8000000
set_option maxRecDepth 100000
namespace Go.Proofs.YtlnjaagijaadmaaGreatDoor
open Go.Proofs.Tryz
open Go.RowKit
def z4d (w:zW)(U g m:Nat):Prop:=∃(l:List Int) (A:zP) (c at':Nat),Blk w g 44 [zL A l.length c,zI at']/\at'<=m/\Row w 1 (zL A l.length c) l.length (l.map fun(n:Int)=>zI n)/\(∀ ad,A=some ad->ad.block≠g/\ad.block<U)/\g<U
theorem z4d.mono {w:zW}{U g m m':Nat}(h:z4d w U g m)(hm:m<=m'):z4d w U g m':=by
 obtain⟨l,A,c,a,h1,h2,h3,h4⟩:=h;exact⟨l,A,c,a,h1,by omega,h3,h4⟩
theorem z4d.lt {w:zW}{U g m:Nat}(h:z4d w U g m):g<w.heap.size:=by
 obtain⟨l,A,c,a,h1,-⟩:=h;exact h1.lt
theorem z4d.ltU {w:zW}{U g m:Nat}(h:z4d w U g m):g<U:=by
 obtain⟨l,A,c,a,-,-,-,-,h1⟩:=h;exact h1
theorem z4d.kw {w w':zW}{U g m:Nat}(h:z4d w U g m)(hb:zB w w'):z4d w' U g m:=by
 obtain⟨l,A,c,a,h1,h2,h3,h4⟩:=h;exact⟨l,A,c,a,h1.kw hb h1.lt,h2,h3.kw hb,h4⟩
theorem z4d.keep {w w':zW}{U g m:Nat}(h:z4d w U g m)(hs:w.heap.size<=w'.heap.size)(hk:∀ x,x<U->w'.heap[x]? = w.heap[x]?):z4d w' U g m:=by
 obtain⟨l,A,c,a,h1,h2,h3,h4,h5⟩:=h;refine⟨l,A,c,a,(hk g h5).trans h1,h2,?_,h4,h5⟩;obtain⟨A',c',e,hc,hm,hl,h00,hx⟩:=h3;refine⟨A',c',e,hc,hm,hl,h00,fun hn=>?_⟩;obtain⟨ad,e2,hb,hcell⟩:=hx hn;injection e with e3 e4 e5
 refine⟨ad,e2,by omega,fun j u hu=>?_⟩
 rw[<- hcell j u hu];refine World.cell?_of_block (hk _ ?_);rw[z00];exact (h4 ad (e3.trans e2)).2
theorem row_at1 {w:zW}{l:List Int}{A:zP}{c k:Nat}(h:Row w 1 (zL A l.length c) l.length (l.map fun(n:Int)=>zI n))(hk:k<l.length):∃ ad,A=some ad/\ad.block<w.heap.size/\w.cell? (ad.add k)=some (zI l[k]):=by
 obtain⟨A',c',e,hc,hm,hl,h0,hx⟩:=h;injection e with e1 e2 e3
 subst e1 e3;obtain⟨ad,rfl,hb,hcell⟩:=hx (by omega)
 refine⟨ad,rfl,hb,hcell k _ ?_⟩;rw[ZA,Ze hk];rfl
theorem z4e (U g m:Nat)(n:Int)(w:zW)(hT:z4d w U g m)(hm:m<=1000000)(hn:n<=1000000000):
  Calls prog 12 #[.pointer (some ⟨g,0,none⟩),zI n] w fun e w'=>∃ k,e=.returned (zI k)/\Under n k/\z4d w' U g (m+1)/\z49 [g] w w':=by
 obtain⟨l,A,c,a,hB,ha,hR,hne,hgU⟩:=hT;have x0:w.cell? ⟨g,0,none⟩=some (.slice A l.length c):=hB.cell 0;have x1:w.cell? ⟨g,1,none⟩=some (zI a):=hB.cell 1;have f1:w.frozen? ⟨g,1,none⟩=false:=hB.frozen 1;have h1:IntKind.i64.wrap ((a:Int) * 7)=(a:Int) * 7:=by rw[IntKind.wrap_i64];omega
 obtain⟨r,hr⟩:∃ r,((a:Int) * 7).tmod 11=r:=⟨_,rfl⟩;have hrb:=z4b ((a:Int) * 7) 11 (by omega)
 rw[hr] at hrb;have h2:IntKind.i64.wrap r=r:=by rw[IntKind.wrap_i64];omega
 have HR:=hd_ hR;have HB:=hd_ hB;have HNE:=hd_ hne;have HF:=hd_ (fun v X=>z4c v n X hn);have HEND:Hid (∀ X,zB w X->X.heap.size=w.heap.size->z4d (X.setCell ⟨g,1,none⟩ (zI ((a:Int)+1))) U g (m+1)/\z49 [g] w (X.setCell ⟨g,1,none⟩ (zI ((a:Int)+1)))):=hd_ (fun X hX hs=>by
  refine⟨⟨l,A,c,a+1,(hB.kw hX hB.lt).set_ 1 _,by omega,?_,hne,hgU⟩,(z49.kw hX).trans (z49.grown (z4a X g 1 _) (by simp))⟩
  refine Row.set_far (hR.kw hX) ?_;intro e;cases A with
  | none=>cases e
  | some ad=>exact (hne ad rfl).1 (by simpa [Value.ownBlock] using e))
 have ham:a<=1000000:=by omega
 clear hB hR hne hn hrb hm ha;go_enter func12,ntmps12;go_upto_region 2 with fail;by_cases hlt:a<l.length
 ·have q:decide ((a:Int)<(l.length:Int))=true:=by simp;omega
  obtain⟨ad,rfl,hab,s0⟩:=row_at1 HR.out hlt;generalize l[a]=v at s0;have hz:(a:Int)<(l.length:Int):=by omega
  have hw3:IntKind.i64.wrap ((a:Int)+1)=(a:Int)+1:=by rw[IntKind.wrap_i64];omega
  clear hab hlt;go_quiet (fail)
  go_upto_region 3 with fail;go_quiet (fail)
  go_wp2_with fail;refine (HF v _).mono ?_;rintro e w' ⟨k,rfl,hk,rfl⟩;go_wp2_with fail;go_ret;exact⟨k,rfl,hk,HEND _ (z48 w _) rfl⟩
 ·have q:decide ((a:Int)<(l.length:Int))=false:=by simp;omega
  have q':decide (a<l.length)=false:=by simp;omega
  have hz:¬((a:Int)<(l.length:Int)):=by omega
  have hw3:IntKind.i64.wrap ((a:Int)+1)=(a:Int)+1:=by rw[IntKind.wrap_i64];omega
  clear hlt;go_quiet (fail)
  go_wp2_with fail;refine (HF r _).mono ?_;rintro e w' ⟨k,rfl,hk,rfl⟩;go_wp2_with fail;go_ret;exact⟨k,rfl,hk,HEND _ (z48 w _) rfl⟩
structure RtSt (w wr:zW)(ce:List zV)(rv:zV)(rb:Bool)(v:zV)(n:Nat)(xs:List zV):Prop where
 low:zB w wr
 ent:Blk wr w.heap.size 59 ce
 res:Blk wr (w.heap.size+1) 66 [zL none 0 0,.bool false,zL none 0 0]
 box:Blk wr (w.heap.size+1+1) 66 [rv,.bool rb,v]
 own:wr.ownsRow (w.heap.size+1+1+1) 56 2 v n xs
theorem RtSt.ku {w wr wx:zW}{ce:List zV}{rv:zV}{rb:Bool}{v:zV}{n:Nat}{xs:List zV}(h:RtSt w wr ce rv rb v n xs)(hb:zB wr wx):RtSt w wx ce rv rb v n xs:=
 ⟨z0r h.low hb,h.ent.kw hb h.ent.lt,h.res.kw hb h.res.lt,h.box.kw hb h.box.lt,z0n h.own hb⟩
theorem RtSt.push {w wr w2:zW}{ce:List zV}{rv:zV}{rb:Bool}{v:zV}{n:Nat}{xs ys:List zV}{A':zP}{c':Nat}(h:RtSt w wr ce rv rb v n xs)
  (hown:w2.ownsRow (w.heap.size+1+1+1) 56 2 (zL A' (n+1) c') (n+1) (xs++ys)) (hgr:wr.grownBy w2 v.ownBlock)
  (hob:(zL A' (n+1) c').ownBlock=v.ownBlock\/(zL A' (n+1) c').ownBlock=some wr.heap.size):
  RtSt w (w2.setCell ⟨w.heap.size+1+1,2,none⟩ (zL A' (n+1) c')) ce rv rb (zL A' (n+1) c') (n+1) (xs++ys):=by
 have hl:=h.box.lt;have hb1:∀ k,v.ownBlock=some k->w.heap.size+1+1<k:=fun k e=>by have:=(h.own.lt k e).1;omega
 have hne:(zL A' (n+1) c').ownBlock≠some (w.heap.size+1+1):=by
  rcases hob with e | e
  ·rw[e];exact fun e=>by have:=hb1 _ e;omega
  ·rw[e];intro e2;injection e2 with e2;omega
 refine⟨(h.low.grown hgr h.low.size (fun k e=>by have:=hb1 k e;omega)).setCell (p:=⟨w.heap.size+1+1,2,none⟩) (by show w.heap.size<=w.heap.size+1+1;omega) _,Blk.far (Blk.grown h.ent hgr (fun e=>by have:=hb1 _ e.symm;omega)) (by show w.heap.size+1+1≠w.heap.size;omega) _,Blk.far (Blk.grown h.res hgr (fun e=>by have:=hb1 _ e.symm;omega)) (by show w.heap.size+1+1≠w.heap.size+1;omega) _,(Blk.grown h.box hgr (fun e=>by have:=hb1 _ e.symm;omega)).set_ 2 _,z5c hown (p:=⟨w.heap.size+1+1,2,none⟩) hne _⟩
open Go.Sort (grow)
section
variable {u0 u1 u2 u3 u4 u5 u6 u7 u8 u9 gF gG gH gI gJ gK gL gM gN gO gP gQ gR gT gV gW gX gY gZ i6 i7 i8 ia ib ic ie ig ii ij ik il im io ip iq ir iu iv iw iy iz iA iB iC iD iE iF iG iH iI iJ iK iL iM iN iO iP iQ iR iS iT iU iV iW iX iY iZ j0 j1 j2 j9 jb jd je jf : zV}
theorem ziy (w:zW):(sizeOf 84).run prog w=.ok 3 w:=by kernel_rfl
theorem z5s.head {w:zW}{A:zP}{c n:Nat}{x:Hav}{r:List Hav}(h:z5s w (zL A n c) (x :: r)):
  n=r.length+1/\∃ ad,A=some ad/\ad.block<w.heap.size/\z5t w ad x:=by
 have hn:n=(x :: r).length:=by obtain⟨A',c',e,-⟩:=id h;injection e
 subst hn;obtain⟨ad,e,hb,hc⟩:=z5s.at_ (k:=0) h (by simp)
 refine⟨rfl,ad,e,hb,?_⟩;have:ad.add (0 * 3)=ad:=by unfold Addr.add;simp
 rw[this] at hc;exact hc
theorem z5s.tail {w:zW}{A:zP}{c n:Nat}{x:Hav}{r:List Hav}(h:z5s w (zL A n c) (x :: r)):
  ∃ A' c',(∀ X,(Instr.sliceAt 28 (zL A n c) (some (zI 1)) none none).run prog X=.ok (zL A' r.length c') X)/\z5s w (zL A' r.length c') r:=by
 have hn:n=(x :: r).length:=by obtain⟨A',c',e,-⟩:=id h;injection e
 subst hn;obtain⟨A',c',h1,h2⟩:=zcs (P:=prog) (w:=w) underlying28 ziy h (by simp)
 exact⟨A',c',h1,h2⟩
theorem ziz (x y:Hav)(W:zW):(binOp .eql 84 (.agg #[zS x.kt,zI x.num,zS x.loc]) (.agg #[zS y.kt,zI y.num,zS y.loc])).run prog W=.ok (.bool (decide (x=y))) W:=by
 obtain⟨a,b,c⟩:=x;obtain⟨d,e,f⟩:=y;rw[run_eql_struct,run_equalIn_agg W 9999 84 _ _ (by kernel_rfl) (by kernel_rfl)]
 simp [go_sem,Op.eqFields,zev]
 by_cases h1:a=d <;> by_cases h2:b=e <;> by_cases h3:c=f <;> simp [h1,h2,h3]
theorem z49.set (w:zW)(g i:Nat)(u:zV):z49 [g] w (w.setCell ⟨g,i,none⟩ u):=z49.grown (z4a w g i u) (by simp)
theorem z49.drew {S:List Nat}{w w':zW}(h:z49 S w w'):z49 S w w'.drew:=h.trans (z49.kw (Zb _ _).drew)
theorem zj0 (ops:Array Oper)(hops:Tryz.f70.body.bind (z0w 12)=some ops)(Q:Exit->Act->zW->Prop)(V1:zW)(ad:Addr)(n c g7:Nat)(h:Hav)(v0 v1 v2 v3 v4:zV)(hh:z5t V1 ad h)(hB:Blk V1 g7 99 [v0,v1,v2,v3,v4])(hn:0<n)
  (hQ:∀(fd fe ff fg fh fj fk fm fp fq:zV) (w':zW),z49 [g7] V1 w'->Blk w' g7 99 [v0,zS h.kt,v2,zS h.loc,v4]->Q .normal ⟨#[zL (some ad) n c,u1,u2,u3,u4,u5,u6,.pointer (some ⟨g7,0,none⟩),u8,u9,gF,gG,gH,gI,gJ,gK,gL,gM,gN,gO,gP,gQ,gR,gT,gV,gW,gX,gY,gZ,i6,i7,i8,ia,ib,ic,ie,ig,ii,ij,ik,il,im,io,ip,iq,ir,iu,fd,fe,ff,fg,fh,fj,fk,fm,fp,fq,iG,iH,iI,iJ,iK,iL,iM,iN,iO,iP,iQ,iR,iS,iT,iU,iV,iW,iX,iY,iZ,j0,j1,j2,j9,jb,jd,je,jf],[]⟩ w'):
  (Code.region 12 ops true).wp prog Q ⟨#[zL (some ad) n c,u1,u2,u3,u4,u5,u6,.pointer (some ⟨g7,0,none⟩),u8,u9,gF,gG,gH,gI,gJ,gK,gL,gM,gN,gO,gP,gQ,gR,gT,gV,gW,gX,gY,gZ,i6,i7,i8,ia,ib,ic,ie,ig,ii,ij,ik,il,im,io,ip,iq,ir,iu,iv,iw,iy,iz,iA,iB,iC,iD,iE,iF,iG,iH,iI,iJ,iK,iL,iM,iN,iO,iP,iQ,iR,iS,iT,iU,iV,iW,iX,iY,iZ,j0,j1,j2,j9,jb,jd,je,jf],[]⟩ V1:=by
 simp only[Tryz.f70,Zp,z0w] at hops
 simp at hops
 subst hops;obtain⟨x0,x1,x2⟩:=hh;have y1:V1.cell? ⟨g7,1,none⟩=some v1:=hB.cell 1;have y3:V1.cell? ⟨g7,3,none⟩=some v3:=hB.cell 3;have f1:V1.frozen? ⟨g7,1,none⟩=false:=hB.frozen 1;have f3:V1.frozen? ⟨g7,3,none⟩=false:=hB.frozen 3;have hz:(0:Int)<(n:Int):=by omega
 have HQ:=hd_ hQ;have HB:=hd_ hB;clear hQ hB;refine wp_region_noPanic ?_;go_region_law (fail)
 all_goals exact NoPanic.normal (HQ _ _ _ _ _ _ _ _ _ _ _ (((z49.set V1 g7 1 (zS h.kt)).trans (z49.set _ g7 3 (zS h.loc))).drew) ((HB.set_ 1 (zS h.kt)).set_ 3 (zS h.loc)))
theorem zj1 (ops:Array Oper)(hops:Tryz.f70.body.bind (z0w 15)=some ops)(Q:Exit->Act->zW->Prop)(V1:zW)(ad:Addr)(n c g7:Nat)(h:Hav)(v0 v1 v2 v3 v4:zV)(hh:z5t V1 ad h)(hB:Blk V1 g7 99 [v0,v1,v2,v3,v4])(hn:0<n)(hne:ad.block≠g7)
  (hQ:∀(fx fy fA fB fC fD fE fF fG fH fI fJ fK fL fM:zV) (w':zW),z49 [g7] V1 w'->Blk w' g7 99 [v0,zS h.kt,zI h.num,v3,zS h.loc]->Q .normal ⟨#[u0,zL (some ad) n c,u2,u3,u4,u5,u6,.pointer (some ⟨g7,0,none⟩),u8,u9,gF,gG,gH,gI,gJ,gK,gL,gM,gN,gO,gP,gQ,gR,gT,gV,gW,gX,gY,gZ,i6,i7,i8,ia,ib,ic,ie,ig,ii,ij,ik,il,im,io,ip,iq,ir,iu,iv,iw,iy,iz,iA,iB,iC,iD,iE,iF,iG,iH,iI,iJ,fx,fy,fA,fB,fC,fD,fE,fF,fG,fH,fI,fJ,fK,fL,fM,iZ,j0,j1,j2,j9,jb,jd,je,jf],[]⟩ w'):
  (Code.region 15 ops true).wp prog Q ⟨#[u0,zL (some ad) n c,u2,u3,u4,u5,u6,.pointer (some ⟨g7,0,none⟩),u8,u9,gF,gG,gH,gI,gJ,gK,gL,gM,gN,gO,gP,gQ,gR,gT,gV,gW,gX,gY,gZ,i6,i7,i8,ia,ib,ic,ie,ig,ii,ij,ik,il,im,io,ip,iq,ir,iu,iv,iw,iy,iz,iA,iB,iC,iD,iE,iF,iG,iH,iI,iJ,iK,iL,iM,iN,iO,iP,iQ,iR,iS,iT,iU,iV,iW,iX,iY,iZ,j0,j1,j2,j9,jb,jd,je,jf],[]⟩ V1:=by
 simp only[Tryz.f70,Zp,z0w] at hops
 simp at hops
 subst hops;obtain⟨x0,x1,x2⟩:=hh;have y1:V1.cell? ⟨g7,1,none⟩=some v1:=hB.cell 1;have y2:V1.cell? ⟨g7,2,none⟩=some v2:=hB.cell 2;have y4:V1.cell? ⟨g7,4,none⟩=some v4:=hB.cell 4;have f1:V1.frozen? ⟨g7,1,none⟩=false:=hB.frozen 1;have f2:V1.frozen? ⟨g7,2,none⟩=false:=hB.frozen 2;have f4:V1.frozen? ⟨g7,4,none⟩=false:=hB.frozen 4;have hz:(0:Int)<(n:Int):=by omega
 have n1:¬(ad.block=g7):=hne;have n2:¬(g7=ad.block):=fun e=>hne e.symm;have HQ:=hd_ hQ;have HB:=hd_ hB;clear hQ hB;refine wp_region_noPanic ?_;go_region_law (fail)
 all_goals exact NoPanic.normal (HQ _ _ _ _ _ _ _ _ _ _ _ _ _ _ _ _ ((((z49.set V1 g7 1 (zS h.kt)).trans (z49.set _ g7 2 (zI h.num))).trans (z49.set _ g7 4 (zS h.loc))).drew) (((HB.set_ 1 (zS h.kt)).set_ 2 (zI h.num)).set_ 4 (zS h.loc)))
end
def zj6 (w:zW)(B:Nat)(v:zV)(l:List Syn):Prop:=w.ownsRow B 99 5 v l.length (l.flatMap Syn.cells)
def zj7 (q:Int)(x:Syn):Syn:={ x with kind:=q }
theorem zj8 (q:Int):∀(l:List Syn) (k:Nat) (hk:k<l.length),(l.set k (zj7 q l[k])).flatMap Syn.cells=(l.flatMap Syn.cells).set (k * 5) (zI q)
 | [],k,hk=>absurd hk (by simp)
 | x :: r,0,_=>rfl
 | x :: r,k+1,hk=>by
  have ih:=zj8 q r k (by simpa using hk)
  have e:(k+1) * 5=k * 5+5:=by omega
  rw[List.getElem_cons_succ,List.set_cons_succ,ZG,ZG,ih,e];rfl
theorem zj6.slice {w:zW}{B:Nat}{v:zV}{l:List Syn}(h:zj6 w B v l)(hk:0<l.length):∃ g c,v=zL (some ⟨g,0,none⟩) l.length c/\B<=g/\g<w.heap.size:=by
 obtain⟨-,h2 | ⟨g,cap,cur,e1,h3,h4,-⟩⟩:=h
 ·omega
 ·exact⟨g,cap,e1,h3,(ZC.1 h4).1⟩
theorem zj6.cell {w:zW}{B g c n:Nat}{l:List Syn}(h:zj6 w B (zL (some ⟨g,0,none⟩) n c) l){k:Nat}(hk:k<l.length):
  z6e w ⟨g,k * 5,none⟩ l[k]/\w.frozen? ⟨g,k * 5,none⟩=false:=by
 have hn:n=l.length:=by
  obtain⟨A,c',e⟩:=z0o h;injection e
 subst hn;have hat:∀ j u,j<5->l[k].cells[j]? = some u->(l.flatMap Syn.cells)[k * 5+j]? = some u:=by
  intro j u hj hu;rw[z3v Syn.cells 5 (fun _=>rfl) l k j hk hj];exact hu
 have h0:=zc0 h (j:=k * 5) (hat 0 _ (by omega) rfl)
 exact⟨⟨h0.1,(zc0 h (j:=k * 5+1) (hat 1 _ (by omega) rfl)).1,(zc0 h (j:=k * 5+2) (hat 2 _ (by omega) rfl)).1,(zc0 h (j:=k * 5+3) (hat 3 _ (by omega) rfl)).1,(zc0 h (j:=k * 5+4) (hat 4 _ (by omega) rfl)).1⟩,h0.2.1⟩
theorem zj6.put {w:zW}{B g c n:Nat}{l:List Syn}(h:zj6 w B (zL (some ⟨g,0,none⟩) n c) l){k:Nat}(hk:k<l.length)(q:Int):
  zj6 (w.setCell ⟨g,k * 5,none⟩ (zI q)) B (zL (some ⟨g,0,none⟩) n c) (l.set k (zj7 q l[k])):=by
 have hn:n=l.length:=by
  obtain⟨A,c',e⟩:=z0o h;injection e
 subst hn;unfold zj6;rw[List.length_set,zj8 q l k hk];exact zbz h _
open Go.RowKit Go.Lib
open Go.Sort hiding Below
abbrev zjn:={ s:zA // z2y s=true/\s.size<=1000000 }
instance:Inhabited zjn:=⟨⟨z6w,z6x,by unfold z6w;decide⟩⟩
def zjn.enc (x:zjn):zV:=zS x.1
def zjn.cmp (x y:zjn):Int:=z30 x.1 y.1
theorem zjo:z6s zjn.cmp:=totP (f:=fun r:zjn=>r.1) fun r=>r.2.1
theorem zjp (blk off size:Nat)(w:zW):CmpReads prog 52 #[] zjn.enc zjn.cmp blk off size w:=
 fun m os dk _ x y=>(z5p x.1 y.1 (sortWorld zjn.enc w blk off m dk os) (by have:=x.2.2;omega) (by have:=y.2.2;omega)).mono fun e w' h=>h
theorem zjq:∀ {l:List zA},(∀ r∈l,z2y r=true/\r.size<=1000000)->∃ l':List zjn,l'.map (·.1)=l
 | [],_=>⟨[],rfl⟩
 | r :: l,h=>by
  obtain⟨l',rfl⟩:=zjq fun x hx=>h x (Zh _ hx);exact⟨⟨r,h r (Zj ..)⟩ :: l',rfl⟩
theorem zjr (A:zP)(c:Nat)(w:zW):Calls prog 151 #[zL A 0 c,zI 0,zI 0,.func (.func 52) #[] #[]] w fun e w'=>e=.returned (.tuple #[])/\w=w':=by
 go_enter func151,ntmps151;go_wp2
 refine wp_loop_rounds 1 ?_;rw[rounds_succ];go_wp2
 go_end0
 exact⟨rfl,rfl⟩
def SrEnd (w:zW)(v:zV)(l:List zA)(w':zW):Prop:=∃ l':List zA,l'.Perm l/\l'.Pairwise (fun a b=>¬ z30 b a<0)/\Row w' 1 v l.length (l'.map .string)/\w.grownBy w' v.ownBlock
def SrPost (w:zW)(base:Nat)(v:zV)(l:List zA)(e:Ending)(w':zW):Prop:=
 e=.returned (.tuple #[])/\SrEnd w v l w'
theorem zjs (l:List zjn)(v:zV)(base:Nat)(lim:Int)(w:zW)(hown:w.ownsRow base 9 1 v l.length (l.map zjn.enc))(hl:l.length<=12)(h0:0<l.length):
  Calls prog 102 #[v,zI 0,zI l.length,zI lim,.func (.func 52) #[] #[]] w (SrPost w base v (l.map (·.1))):=by
 obtain⟨g,cap,rfl⟩:=z0s hown h0;have hHold:Holds zjn.enc w g 0 l.toArray:=fun j hj=>by
  have hj':j<l.length:=by simpa using hj
  have h1:=zc0 hown (j:=j) (u:=zjn.enc l[j]) (by rw[ZA,Ze hj'];rfl)
  rw[ZV,getElem!_pos l.toArray j hj];exact⟨h1.1,h1.2.1⟩
 have H:=hd_ (Tryz.insertionSortCmpFunc_one zjn.enc (fun _=>rfl) zjn.cmp 52 #[] g 0 cap 0 l.length l.toArray w (fun args w=>by kernel_rfl) (zjp g 0 _ w) hHold (Zg _) (by simp) (by simp;omega))
 have HH:=hd_ hHold;have HO:=hd_ hown;have hs0:l.toArray.size=l.length:=by simp
 rw[hs0,show ((0:Nat):Int)=0 from rfl] at H;have hle:decide ((l.length:Int)<=12)=true:=by simp;omega
 have hle':decide (l.length<=12)=true:=by simp;omega
 clear hown hHold hs0;go_enter func102,ntmps102;go_wp2_with fail;go_loop [1,2] (fun a b=>a=zI 0/\b=zI l.length) (fun _ _=>1)
 exact⟨rfl,rfl⟩
 obtain⟨rfl,rfl⟩:=hrel;go_wp2_with fail;refine H.mono ?_;rintro e w' ⟨rfl,n,rfl⟩;go_wp2_with fail;go_end0
 have hs0:l.toArray.size=l.length:=by simp
 obtain⟨k1,k2⟩:=Go.Sort.insertionSort_holds zjo.swo l.toArray 0 l.length (Zg _) (by rw[hs0];exact Zd _)
 have hHn:=holds_putRow zjn.enc w g 0 l.toArray (Sort.insertionSort (ltOf zjn.cmp) l.toArray 0 l.length) HH.out k1.1;have hgrow:w.grownBy ((putRow zjn.enc w g 0 (Sort.insertionSort (ltOf zjn.cmp) l.toArray 0 l.length)).drewN n) (some g):=by
  refine⟨rfl,rfl,rfl,by show w.heap.size<=(putRow zjn.enc w g 0 _).heap.size;rw[size_putRow];exact Zd _,fun k hk hne=>?_⟩
  show (w.heap.modify g _)[k]? = w.heap[k]?
  rw[Array.getElem?_modify,if_neg (fun e=>hne (by rw[e]))]
 have hlt:g<w.heap.size:=(HO.lt g rfl).2;generalize hd:Sort.insertionSort (ltOf zjn.cmp) l.toArray 0 l.length=d' at k1 k2 hHn hgrow;have hs:d'.size=l.length:=by rw[k1.1,hs0]
 refine⟨rfl,(d'.toList).map (·.1),?_,?_,?_,hgrow⟩
 ·refine List.Perm.map _ ?_;have:=k1.2.2;rw[<- hs,Array.extract_size,hs,<- hs0,Array.extract_size] at this;simpa using this
 ·rw[List.pairwise_map,List.pairwise_iff_getElem];intro i j hi hj hij;have hi':i<d'.size:=by simpa using hi
  have hj':j<d'.size:=by simpa using hj
  have:=k2 i j (Zg _) hij (by omega)
  rw[getElem!_pos d' j hj',getElem!_pos d' i hi'] at this;have h3:=of_decide_eq_false (show decide (z30 d'[j].1 d'[i].1<0)=false from this);simpa using h3
 ·rw[Zk];obtain⟨A',c',e,h1,h2,-⟩:=Row.of_own HO.out;injection e with e1 e2 e3
  subst e3;refine⟨_,_,rfl,h1,h2,by simp [hs],fun h=>(by cases h),fun _=>⟨_,rfl,Zq hlt hgrow.size,fun j u hu=>?_⟩⟩
  have hadd:(⟨g,0,none⟩:Addr).add j=⟨g,j,none⟩:=by unfold Addr.add;split <;> simp_all
  rw[hadd];rw[List.map_map,ZA,Yg] at hu;obtain⟨x,hx,rfl⟩:=hu;rw[ZR] at hx;obtain⟨hj,hx⟩:=hx;have hj':j<d'.size:=by simpa using hj
  have:=(hHn j hj').1;rw[ZV,getElem!_pos d' j hj'] at this;have hx':d'[j]=x:=by simpa using hx
  rw[hx'] at this;exact this
theorem zjt (A:zP)(c:Nat)(lim:Int)(w:zW):
  Calls prog 102 #[zL A 0 c,zI 0,zI 0,zI lim,.func (.func 52) #[] #[]] w fun e w'=>e=.returned (.tuple #[])/\w=w':=by
 have H:=hd_ (zjr A c w);go_enter func102,ntmps102;go_wp2_with fail;go_loop [1,2] (fun a b=>a=zI 0/\b=zI 0) (fun _ _=>1)
 exact⟨rfl,rfl⟩
 obtain⟨rfl,rfl⟩:=hrel;go_wp2_with fail;refine H.mono ?_;rintro e w' ⟨rfl,rfl⟩;go_wp2_with fail;exact bodyPost_ret (v:=.tuple #[]) (by simp [results,results102,go_sem]) rfl ⟨rfl,rfl⟩
theorem zju (l:List zA)(v:zV)(base:Nat)(w:zW)(hown:w.ownsRow base 9 1 v l.length (l.map .string))(hl:l.length<=12)(hv:∀ x∈l,z2y x=true/\x.size<=1000000):
  Calls prog 51 #[v,.func (.func 52) #[] #[]] w (SrPost w base v l):=by
 obtain⟨A,c,rfl⟩:=z0o hown;have HL:=hd_ (Tryz.bits_Len (l.length:Int) w (by omega) (by omega))
 have hw:IntKind.u64.wrap (l.length:Int)=(l.length:Int):=by simp [IntKind.wrap,IntKind.bits,IntKind.signed];omega
 by_cases h0:l.length=0
 ·have hl0:l=[]:=Zt h0;subst hl0;have H:=hd_ (fun lim=>zjt A c lim w);have HO:=hd_ hown;clear hown hv;go_enter func51,ntmps51;go_wp2_with fail;refine HL.mono ?_;rintro e w' ⟨rfl,rfl⟩;go_wp2_with fail;refine (H _).mono ?_;rintro e w' ⟨rfl,rfl⟩;go_wp2_with fail;go_end0
  exact⟨rfl,[],List.Perm.refl _,List.Pairwise.nil,Row.of_own HO,⟨rfl,rfl,rfl,Zd _,fun _ _ _=>rfl⟩⟩
 ·obtain⟨l',rfl⟩:=zjq hv;rw[Zk] at h0 hl hw HL;have H:=hd_ (fun lim=>zjs l' (zL A (l'.map (·.1)).length c) base lim w (by rw[List.map_map] at hown;rw[Zk] at hown |-;exact hown) hl (by omega))
  rw[Zk] at H |-;clear hown hv;go_enter func51,ntmps51;go_wp2_with fail;refine HL.mono ?_;rintro e w' ⟨rfl,rfl⟩;go_wp2_with fail;refine (H _).mono ?_;rintro e w' ⟨rfl,h1⟩;have H1:=hd_ h1;clear h1;go_wp2_with fail;go_end0
  exact⟨rfl,H1⟩
theorem zii (x:Int):∃ r:Nat,r<18446744073709551616/\IntKind.u64.wrap x=r:=
 ⟨(x % 18446744073709551616).toNat,by omega,by simp [IntKind.wrap,IntKind.bits,IntKind.signed];omega⟩
theorem zij (a b:Int):∃ r:Nat,r<18446744073709551616/\∀ w,Calls prog 215 #[.int .u64 a,.int .u64 b] w fun e w'=>e=.returned (.int .u64 r)/\w'=w:=by
 obtain⟨s,hs,q0⟩:=zii (a+b);by_cases h:(2305843009213693951:Int)<=s
 ·have q1:decide ((2305843009213693951:Int)<=s)=true:=by simpa using h
  obtain⟨x,hx,q2⟩:=zii ((s:Int) - 2305843009213693951);clear h;by_cases h:(2305843009213693951:Int)<=x
  ·have q3:decide ((2305843009213693951:Int)<=x)=true:=by simpa using h
   obtain⟨y,hy,q4⟩:=zii ((x:Int) - 2305843009213693951);clear h;refine⟨y,hy,fun w=>?_⟩;go_enter func215,ntmps215;go_wp2_with fail;go_ret;exact⟨rfl,rfl⟩
  ·have q3:decide ((2305843009213693951:Int)<=x)=false:=by simpa using h
   clear h;refine⟨x,hx,fun w=>?_⟩;go_enter func215,ntmps215;go_wp2_with fail;go_ret;exact⟨rfl,rfl⟩
 ·have q1:decide ((2305843009213693951:Int)<=s)=false:=by simpa using h
  clear h;refine⟨s,hs,fun w=>?_⟩;go_enter func215,ntmps215;go_wp2_with fail;go_ret;exact⟨rfl,rfl⟩
theorem rMul_ex (a b:Nat)(ha:a<18446744073709551616)(hb:b<18446744073709551616):∃ r:Nat,r<18446744073709551616/\∀ w,Calls prog 216 #[.int .u64 a,.int .u64 b] w fun e w'=>e=.returned (.int .u64 r)/\w'=w:=by
 have HM:=hd_ (fun w=>Tryz.bits_Mul64 a b ha hb w);generalize a * b / 18446744073709551616=hi at HM;generalize a * b % 18446744073709551616=lo at HM;obtain⟨r,hr,hP⟩:=zij (bits .and .u64 lo 2305843009213693951) (bits .or .u64 (IntKind.u64.wrap (hi * 8)) (lo / 2305843009213693952));have HP:=hd_ hP;clear hP;refine⟨r,hr,fun w=>?_⟩;go_enter func216,ntmps216;go_wp2_with fail;refine (HM _).mono ?_;rintro e w' ⟨rfl,rfl⟩;dsimp only;go_wp2_with fail;refine (HP _).mono ?_;rintro e w' ⟨rfl,rfl⟩;dsimp only;go_wp2_with fail;go_ret;exact⟨rfl,rfl⟩
theorem zik (l:List UInt8)(v:zV)(w:zW)(hb:Bytes w v l):
  Calls prog 185 #[v] w fun e w'=>(∃ r:Nat,r<18446744073709551616/\e=.returned (.int .u64 r))/\zB w w':=by
 obtain⟨A,c,rfl,hcc,hmm,-⟩:=id hb;have HB:=hd_ hb;unfold maxLen at hmm;clear hb;go_enter func185,ntmps185;go_wp2_with fail;go_loopw [3,4] (fun u i wr=>∃ k s:Nat,i=zI k/\u=.int .u64 s/\k<=l.length/\Hid (s<18446744073709551616/\zB w wr)) (fun _ i _=>l.length - (intOf i).toNat)
 exact⟨0,0,rfl,rfl,Zg _,hd_ ⟨by decide,Zb _ _⟩⟩
 obtain⟨k,s,rfl,rfl,hk,HI⟩:=hrel;by_cases hlt:k<l.length
 ·obtain⟨ad,rfl,hab,x0⟩:=Bytes.at_ (HB.out.kw HI.out.2) hlt;generalize l[k].toNat=xn at x0;obtain⟨m,hm,hM⟩:=rMul_ex s 747382712868975713 HI.out.1 (by decide)
  obtain⟨x1,hx1,q1⟩:=zii xn;obtain⟨x2,hx2,q2⟩:=zii ((x1:Int)+1);obtain⟨r,hr,hP⟩:=zij m x2;have HM:=hd_ hM;have HP:=hd_ hP;have HRR:=hd_ hr;have hzk:(k:Int)<(l.length:Int):=by omega
  have HLT:=hd_ hlt;clear hM hP hr hm hx1 hx2 hab hlt;go_upto_region 5 with fail;go_quiet ((first | (go_at_call 216;exact Calls.quiet_of_same (HM _)) | (go_at_call 215;exact Calls.quiet_of_same (HP _))))
  clear q1 q2 x0;go_wp2_with fail;go_roundw
  exact⟨k+1,r,by go_num,rfl,by have:=HLT.out;omega,hd_ ⟨HRR,z0p HI.2 _⟩⟩
  have:=HLT.out;simp [intOf];omega
 ·have hge:¬((k:Int)<(l.length:Int)):=by omega
  have HF:=hd_ HI;clear HI;go_wp2_with fail;go_ret;exact⟨⟨s,HF.1,rfl⟩,HF.2⟩
theorem rOf_any (l:List UInt8)(v:zV)(w:zW)(hb:Bytes w v l):
  Calls prog 135 #[v] w fun e w'=>(∃ r:Nat,e=.returned (.agg #[.int .u64 r,zI l.length]))/\zB w w':=by
 obtain⟨A,c,rfl,hcc,hmm,-⟩:=id hb;have hB:=z0l w [.int .u64 0,zI 0] 76;have hA:zB w (w.alloc (zC #[.int .u64 0,zI 0] 76)):=zR;have HS:=hd_ (zik l (zL A l.length c) _ (Row.kw hb hA));have HA:=hd_ hA;have HB:=hd_ hB;clear hb hA hB;unfold maxLen at hmm;go_enter func135,ntmps135;go_upto_region 1 with fail;generalize w.alloc (zC #[.int .u64 0,zI 0] 76)=W at HS HB HA |-;go_wp2_with fail;refine HS.mono ?_;rintro e w2 ⟨⟨r,hr,rfl⟩,hb⟩;dsimp only;have HX:=hd_ (HB.kw hb HB.lt);have HA2:=hd_ (z0r HA hb);clear hb HS hr;have c0:w2.cell? ⟨w.heap.size,0,none⟩=some (.int .u64 0):=HX.cell 0;have c1:w2.cell? ⟨w.heap.size,1,none⟩=some (zI 0):=HX.cell 1;have f0:w2.frozen? ⟨w.heap.size,0,none⟩=false:=HX.frozen 0;have f1:w2.frozen? ⟨w.heap.size,1,none⟩=false:=HX.frozen 1;have HR:=hd_ ((HX.set_ 0 (.int .u64 (r:Int))).set_ 1 (zI (l.length:Int)));have HA3:=hd_ ((HA2.setCell (p:=⟨w.heap.size,0,none⟩) (Zd _) (.int .u64 (r:Int))).setCell (p:=⟨w.heap.size,1,none⟩) (Zd _) (zI (l.length:Int)));go_wp2_with fail;have r0:=HR.out.cell 0;have r1:=HR.out.cell 1;exact bodyPost_ret (v:=.agg #[.int .u64 (r:Int),zI (l.length:Int)]) (by simp at r0 r1;simp [results,results135,go_sem,r0,r1]) rfl ⟨⟨r,rfl⟩,HA3⟩
theorem zd4 {s:List UInt8}{k:Nat}{cs:List (List UInt8)}(h:z2w s k=some cs):∀ c∈cs,z0y c=true:=by
 unfold z2w at h;split at h
 ·rename_i hc
  injection h with h
  subst h;exact fun c hc2=>ZB.1 hc.2.2 c hc2
 ·cases h
theorem zd5 {p:Pat}(h:z8w p=0){k:Nat}(hk:k<p.kp.length):z8t p.kp[k]≠0:=by
 intro hf;have:z8u k p.kp[k]=false:=by unfold z8u;rw[hf];simp
 rw[z96 (z8x hk this)] at h;cases h
def goB (p:Pat)(cs:List (List UInt8)):Bool:=decide (z8w p=0) && zah p cs
theorem capR_eq {part comp:zA}(hp:z8t part≠0)(hs:z8r part=true)(hb:za7 part comp=true):zb0 part comp=za6 part comp:=by
 unfold za7 at hb;rw[if_pos hs,Zw] at hb;unfold zb0 za6;rw[zb4 hp,hs,hb.1];simp only[Bool.and_self,if_true]
 apply z1s
 rw[zb8];unfold Lib.trimSuffix;rw[hb.1];simp
theorem zd6 (p:Pat)(s:zA)(A:zP)(c:Nat)(w:zW)(he:Env w)(hs:s.size<=1000000)(hS:z20 w (zL A p.kp.length c) p.kp)(hz:∀ x∈p.kp,x.size<=maxLen):
  Calls prog 169 #[.agg #[zL A p.kp.length c,.bool p.kr],zS s] w (zam w p s):=by
 obtain⟨A',c',e',hcc,hmm,-⟩:=id hS;injection e' with e1 e2 e3
 subst e1 e3;unfold maxLen at hmm;have HS:=hd_ hS;have HZ:=hd_ hz;have HND:=hd_ (@zao p s);have HNO:=hd_ (fun cs=>@zap p s cs);have HYE:=hd_ (fun cs=>@zaq p s cs);have HPN:=hd_ (fun X (h:zaj p s=none) (hb:zB w X)=>zar h hb);have hB:=z0l w [zL A p.kp.length c,.bool p.kr] 56;have hA:zB w (w.alloc (zC #[zL A p.kp.length c,.bool p.kr] 56)):=zR;have HPA:=hd_ (fun X cs (hX:zB w X) h=>za2 s cs X (he.kw hX) (by omega) h)
 have HPB:=hd_ (fun X (hX:zB w X) h=>za3 s X (he.kw hX) (by omega) h)
 have HCK:=hd_ (fun X (hX:zB w X)=>zd3 p A c X (hS.kw hX) hz);have HSZ:=hd_ hs;clear hS hz he e2 hs;go_enter func169,ntmps169;go_upto_region 1 with fail;generalize w.alloc (zC #[zL A p.kp.length c,.bool p.kr] 56)=W1 at hB hA |-;have HB:=hd_ hB;have HA:=hd_ hA;clear hB hA;cases hd:z2w s.data.toList 2 with
 | none =>
  have HP1:=hd_ (HPB W1 HA hd);have HR:=hd_ (HND hd);clear hd;go_wp2_with fail;refine HP1.mono ?_;rintro e w2 ⟨rfl,hb2⟩;have HB2:=hd_ (z0r HA hb2);have d0:w2.cell? ⟨w.heap.size,0,none⟩=some (.slice A p.kp.length c):=(HB.kw hb2 HB.lt).cell 0;have d1:w2.cell? ⟨w.heap.size,1,none⟩=some (.bool p.kr):=(HB.kw hb2 HB.lt).cell 1;have HC2:=hd_ (HCK w2 HB2);clear hb2;generalize z8w p=pe at HC2;by_cases h0:pe=0
  ·have q:(pe != 0)=false:=by simpa using h0
   clear h0;go_wp2_with fail;refine HC2.mono ?_;rintro e w3 ⟨rfl,hb3⟩;have HB3:=hd_ (z0r HB2 hb3);clear hb3 d0 d1;go_wp2_with fail;go_ret2;exact HPN _ HR HB3
  ·have q:(pe != 0)=true:=by simpa using h0
   clear h0;go_wp2_with fail;refine HC2.mono ?_;rintro e w3 ⟨rfl,hb3⟩;have HB3:=hd_ (z0r HB2 hb3);clear hb3 d0 d1;go_wp2_with fail;go_ret2;exact HPN _ HR HB3
 | some cs =>
 have HP1:=hd_ (HPA W1 cs HA hd);have hK2:=z0l W1 (z9a cs) 9;have hb2:zB W1 (W1.alloc (.cells (z9a cs).toArray 9)):=zR;generalize W1.alloc (.cells (z9a cs).toArray 9)=w2 at HP1 hK2 hb2;have HD:=hd_ hd;have HDP:=hd_ (zau hd);have HDC:=hd_ (zd4 hd);have HK2:=hd_ hK2;have HB2:=hd_ (z0r HA hb2);have d0:w2.cell? ⟨w.heap.size,0,none⟩=some (.slice A p.kp.length c):=(HB.kw hb2 HB.lt).cell 0;have d1:w2.cell? ⟨w.heap.size,1,none⟩=some (.bool p.kr):=(HB.kw hb2 HB.lt).cell 1;have HBW:=hd_ (HB.kw hb2 HB.lt);clear hd hK2 hb2 HND HPA HPB;have hcl:cs.length<=1000001:=by have:=HDP.out.2.1;have:=HSZ.out;omega
 generalize hg2:W1.heap.size=g2 at HK2 HP1;clear hg2;have HC2:=hd_ (HCK w2 HB2);clear HCK;obtain⟨bb,hbb⟩:∃ b,goB p cs=b:=⟨_,rfl⟩;have HFD:Hid (bb=(decide (z8w p=0) && (decide (p.kp.length<=cs.length) && (decide (p.kp.length<cs.length) == p.kr)))):=hd_ (by rw[<- hbb];rfl)
 have HFB:Hid (goB p cs=bb):=hd_ hbb;clear hbb;obtain⟨pe,hpe⟩:∃ e,z8w p=e:=⟨_,rfl⟩;rw[hpe] at HC2 HFD;have HPE:=hd_ hpe;clear hpe;go_wp2_with fail;refine HP1.mono ?_;rintro e w' ⟨rfl,rfl⟩;go_upto_region 3 with fail;go_cut [57] (fun v wx=>v=.bool (!bb)/\Hid (zB w2 wx))
 case first =>
  have HD0:=hd_ d0;have HD1:=hd_ d1;by_cases h0:pe=0
  case neg =>
   have q:(pe != 0)=true:=by simpa using h0
   have hbf:bb=false:=by rw[HFD.out,decide_eq_false h0];rfl
   subst hbf;clear h0 HFD;go_wp2_with fail;refine HC2.mono ?_;rintro e w3 ⟨rfl,hb3⟩;clear d0 d1;go_wp2_with fail;go_meet
   exact⟨rfl,hb3⟩
  have q:(pe != 0)=false:=by simpa using h0
  have HFE:Hid (bb=(decide (p.kp.length<=cs.length) && (decide (p.kp.length<cs.length) == p.kr))):=hd_ (by rw[HFD.out,decide_eq_true h0];rfl)
  clear h0 HFD;by_cases h1:cs.length<p.kp.length
  ·have hbf:bb=false:=by rw[HFE.out,decide_eq_false (by omega)];rfl
   have q1:decide ((cs.length:Int)<(p.kp.length:Int))=true:=by simp;omega
   have q1':decide (cs.length<p.kp.length)=true:=by simp;omega
   subst hbf;clear h1 HFE;go_wp2_with fail;refine HC2.mono ?_;rintro e w3 ⟨rfl,hb3⟩;clear d0 d1;go_wp2_with fail;go_meet
   exact⟨by first | rfl | (rw[q1'];rfl),hb3⟩
  ·have q1:decide ((cs.length:Int)<(p.kp.length:Int))=false:=by simp;omega
   have q1':decide (cs.length<p.kp.length)=false:=by simp;omega
   rcases Bool.eq_false_or_eq_true p.kr with hr | hr
   case inl =>
    rw[hr] at d1 HC2;by_cases h2:p.kp.length<cs.length
    ·have q3:((cs.length:Int) == (p.kp.length:Int))=false:=by rw[beq_eq_false_iff_ne];omega
     have q3':(cs.length == p.kp.length)=false:=by rw[beq_eq_false_iff_ne];omega
     have hbf:bb=true:=by rw[HFE.out,hr,decide_eq_true (show p.kp.length<=cs.length by omega),decide_eq_true h2];rfl
     subst hbf;clear h1 h2 HFE hr;go_wp2_with fail;refine HC2.mono ?_;rintro e w3 ⟨rfl,hb3⟩;have e1:w3.cell? ⟨w.heap.size,1,none⟩=some (.bool true):=(z04 d1 hb3 (z03 d1));go_wp2_with fail;go_meet
     exact⟨by first | rfl | simp [q1',q3'],hb3⟩
    ·have q3:((cs.length:Int) == (p.kp.length:Int))=true:=by rw[beq_iff_eq];omega
     have q3':(cs.length == p.kp.length)=true:=by rw[beq_iff_eq];omega
     have hbf:bb=false:=by rw[HFE.out,hr,decide_eq_false h2];simp
     subst hbf;clear h1 h2 HFE hr;go_wp2_with fail;refine HC2.mono ?_;rintro e w3 ⟨rfl,hb3⟩;have e1:w3.cell? ⟨w.heap.size,1,none⟩=some (.bool true):=(z04 d1 hb3 (z03 d1));go_wp2_with fail;go_meet
     exact⟨by first | rfl | simp [q1',q3'],hb3⟩
   case inr =>
    rw[hr] at d1 HC2;by_cases h2:p.kp.length<cs.length
    ·have q2:decide ((p.kp.length:Int)<(cs.length:Int))=true:=by simp;omega
     have q2':decide (p.kp.length<cs.length)=true:=by simp;omega
     have hbf:bb=false:=by rw[HFE.out,hr,decide_eq_true h2];simp
     subst hbf;clear h1 h2 HFE hr;go_wp2_with fail;refine HC2.mono ?_;rintro e w3 ⟨rfl,hb3⟩;have e1:w3.cell? ⟨w.heap.size,1,none⟩=some (.bool false):=(z04 d1 hb3 (z03 d1));go_wp2_with fail;go_meet
     exact⟨by first | rfl | simp [q1',q2'],hb3⟩
    ·have q2:decide ((p.kp.length:Int)<(cs.length:Int))=false:=by simp;omega
     have q2':decide (p.kp.length<cs.length)=false:=by simp;omega
     have hbf:bb=true:=by rw[HFE.out,hr,decide_eq_true (show p.kp.length<=cs.length by omega),decide_eq_false h2];rfl
     subst hbf;clear h1 h2 HFE hr;go_wp2_with fail;refine HC2.mono ?_;rintro e w3 ⟨rfl,hb3⟩;have e1:w3.cell? ⟨w.heap.size,1,none⟩=some (.bool false):=(z04 d1 hb3 (z03 d1));go_wp2_with fail;go_meet
     exact⟨by first | rfl | simp [q1',q2'],hb3⟩
 case rest =>
  obtain⟨rfl,hcb⟩:=hcut;have HB3:=hd_ (z0r HB2 hcb);have HK3:=hd_ (HK2.kw hcb HK2.lt);have HBW3:=hd_ (HBW.kw hcb HBW.lt);clear hcb d0 d1 HC2 HK2 HBW HP1;have d0:wc.cell? ⟨w.heap.size,0,none⟩=some (.slice A p.kp.length c):=HBW3.cell 0;have d1:wc.cell? ⟨w.heap.size,1,none⟩=some (.bool p.kr):=HBW3.cell 1;cases bb with
  | false =>
   have HR:=hd_ (HNO _ HD (fun h=>by have h2:=HFB.out;unfold goB at h2;rw[h.1,h.2.1] at h2;cases h2))
   go_wp2_with fail;go_ret2;exact HPN _ HR HB3
  | true =>
   rw[show (!true)=false from rfl];have hgo:=HFB.out;unfold goB at hgo;rw[Zw,decide_eq_true_eq] at hgo;have HP0:=hd_ hgo.1;have HFT:=hd_ hgo.2;have hle:p.kp.length<=cs.length:=by
    have:=hgo.2;unfold zah at this;rw[Zw,decide_eq_true_eq] at this;exact this.1
   clear HFD hgo HFB;have HNZ:=hd_ (fun k (hk:k<p.kp.length) (h:za7 (zad p.kp k) (zae cs k)=false)=>HNO _ HD (fun hh=>by have:=hh.2.2;rw[zal hk h] at this;cases this))
   have HYY:=hd_ (fun(h:zaf p.kp cs p.kp.length=true)=>HYE _ HD HP0 HFT h);have HCL:=hd_ hcl;have HLE:=hd_ hle;go_wp2_with fail;clear d0 d1;go_loopw [9,61] (fun u s wr=>∃(k m:Nat) (A2:zP) (c2:Nat),s=zI k/\u=zL A2 m c2/\k<=p.kp.length/\m<=k/\Hid (m=(zag p.kp cs k).length/\zaf p.kp cs k=true/\zB wc wr/\wr.ownsRow wc.heap.size 9 1 (zL A2 m c2) m ((zag p.kp cs k).map .string))) (fun _ s _=>p.kp.length - (intOf s).toNat)
   exact⟨0,0,none,0,rfl,rfl,Zg _,Zd _,rfl,rfl,Zb _ _,Zv _ _ _ _⟩
   obtain⟨k,m,A2,c2,rfl,rfl,hk,hmk,HI⟩:=hrel;by_cases hlt:k<p.kp.length
   ·have hkc:k<cs.length:=by omega
    have hz1:(k:Int)<(cs.length:Int):=by omega
    have hbw:=z0r HB3.out HI.out.2.2.1;obtain⟨ad,rfl,hab,x0⟩:=z20.at_ (HS.out.kw hbw) hlt;have x1:=(HK3.out.kw HI.out.2.2.1 HK3.out.lt).strs k hkc;have HX:=hd_ (zas hlt);have HY:=hd_ (zat hkc);have hps:(p.kp[k]).size<=maxLen:=HZ _ (Za hlt);have hcz:(baL cs[k]).size<=maxLen:=by rw[z9c];have:=HDP.out.1 _ (Za hkc);have:=HSZ.out;unfold maxLen;omega
    have hfo:=zd5 HP0.out hlt;have hcap:zb1 p.kp[k] (baL cs[k])=za7 p.kp[k] (baL cs[k]):=zb9 hfo (HDC _ (Za hkc));generalize p.kp[k]=part at x0 HX hps hcap hfo;generalize baL cs[k]=comp at x1 HY hcz hcap;have HM:=hd_ (fun X=>zbk part comp X hps hcz);have HT:=hd_ (fun X=>zbg part X hps);rw[hcap] at HM;unfold zbd at HT;rw[zb4 hfo] at HT;have HCE:Hid (z8r part=true->za7 part comp=true->zb0 part comp=za6 part comp):=hd_ (capR_eq hfo);have HNK:Hid (za7 part comp=false->zaj p s=none):=hd_ (fun h=>HNZ k hlt (by rw[HX.out,HY.out];exact h))
    have HZB:Hid (za7 part comp=true->zaf p.kp cs (k+1)=true):=hd_ (fun h=>by rw[zak,HI.out.2.1,HX.out,HY.out,h];rfl)
    have HZC:Hid (zag p.kp cs (k+1)=zag p.kp cs k++(if z8r part then [za6 part comp] else [])):=hd_ (by rw[<- HX.out,<- HY.out];rfl)
    generalize za6 part comp=x at HZC HCE;generalize zb0 part comp=y at HM HCE;generalize za7 part comp=b at HM HNK HZB HCE;generalize z8r part=st at HT HZC HCE;generalize za5 part=sx at HT;clear hbw hps hcz hab hcap hfo;cases b with
    | false =>
     have HR:=hd_ (HNK rfl);have HBI:=hd_ (z0r HB3 HI.2.2.1);go_wp2_with fail;refine (HM _).mono ?_;rintro e w' ⟨rfl,rfl⟩;go_wp2_with fail;go_ret2;exact HPN _ HR HBI
    | true =>
     have HB:=hd_ (HZB rfl);cases st with
     | false =>
      have HN:Hid (m=(zag p.kp cs (k+1)).length/\zaf p.kp cs (k+1)=true/\zB wc wr/\wr.ownsRow wc.heap.size 9 1 (zL A2 m c2) m ((zag p.kp cs (k+1)).map .string)):=hd_ (by
       have e:zag p.kp cs (k+1)=zag p.kp cs k:=by rw[HZC.out];simp
       rw[e];exact⟨HI.1,HB,HI.2.2.1,HI.2.2.2⟩)
      go_wp2_with fail;refine (HM _).mono ?_;rintro e w' ⟨rfl,rfl⟩;go_wp2_with fail;refine (HT _).mono ?_;rintro e w' ⟨rfl,rfl⟩;go_wp2_with fail;go_roundw
      exact⟨k+1,m,A2,c2,by go_num,rfl,by omega,by omega,HN⟩
      simp [intOf];omega
     | true =>
      have HOW:=hd_ HI.2.2.2;have HBI:=hd_ HI.2.2.1;have hyx:=HCE.out rfl rfl;subst hyx;go_wp2_with fail;refine (HM _).mono ?_;rintro e w' ⟨rfl,rfl⟩;go_wp2_with fail;refine (HT _).mono ?_;rintro e w' ⟨rfl,rfl⟩;go_wp2_with (first
       | (at_builtin;refine z0k rfl rfl zac (z0n HOW (zR)) rfl (z0i _ [zS y] _ 1 1 rfl (by decide) _ (by simp)) rfl (HBI.alloc HBI.size _) (HBI.alloc HBI.size _).size (by simp [Value.oneCell']) (by omega) (by unfold maxLen;omega) ?_;intro A' c' w5 hown5 hbl5))
      have HN:Hid (m+1=(zag p.kp cs (k+1)).length/\zaf p.kp cs (k+1)=true/\zB wc w5/\w5.ownsRow wc.heap.size 9 1 (zL A' (m+1) c') (m+1) ((zag p.kp cs (k+1)).map .string)):=hd_ (by
       have e:zag p.kp cs (k+1)=zag p.kp cs k++[y]:=by rw[HZC.out];rfl
       rw[e];refine⟨by rw[Zc,ZL,HI.out.1],HB,hbl5,?_⟩
       rw[Zs];exact hown5)
      clear hown5 hbl5;go_wp2_with fail;go_roundw
      exact⟨k+1,m+1,A',c',by go_num,rfl,by omega,by omega,HN⟩
      simp [intOf];omega
   ·have hke:k=p.kp.length:=by omega
    have HF:Hid (m=(zag p.kp cs p.kp.length).length/\zaj p s=some (zai p cs)/\zB wc wr/\wr.ownsRow wc.heap.size 9 1 (zL A2 m c2) m ((zag p.kp cs p.kp.length).map .string)):=hd_ (by
     have h:=HI.out;rw[hke] at h;exact⟨h.1,HYY h.2.1,h.2.2.1,h.2.2.2⟩)
    have d1:wr.cell? ⟨w.heap.size,1,none⟩=some (.bool p.kr):=(HBW3.kw HI.2.2.1 HBW3.lt).cell 1;have hge:¬((k:Int)<(p.kp.length:Int)):=by omega
    clear HI hke;cases hr:p.kr with
    | false =>
     rw[hr] at d1;have HRS:=hd_ hr;clear hr;go_wp2_with fail;go_ret2;refine⟨A2,m,c2,by rw[HF.out.2.1];rfl,z0r HB3 HF.2.2.1,fun l hl=>?_⟩
     rw[HF.out.2.1] at hl;injection hl with hl
     have e:zai p cs=zag p.kp cs p.kp.length:=by unfold zai;rw[HRS.out];simp
     rw[e] at hl;subst hl;refine⟨HF.1,?_⟩;have:=Row.of_own HF.out.2.2.2;rw[HF.out.1] at this |-;exact this
    | true =>
     rw[hr] at d1;have HRS:=hd_ hr;clear hr;have hnc:p.kp.length<cs.length:=by
      have h:=HFT.out;unfold zah at h;rw[HRS.out] at h;simp only[Zw,beq_iff_eq,decide_eq_true_eq] at h
      exact h.2
     have hK:=HK3.out.kw HF.out.2.2.1 HK3.out.lt;have hat:z9l wr g2 p.kp.length (cs.drop p.kp.length):=fun j hj=>by
      rw[Zu] at hj;rw[List.getElem_drop];exact hK.strs _ (by omega)
     have hJ:=z9o (cs.drop p.kp.length) g2 p.kp.length (cs.length - p.kp.length) wr hat (by rw[Zu];omega) (by rw[Zu];omega) (by rw[Zu];omega) (by have:=zav cs p.kp.length;have:=HDP.out.2.2;have:=HSZ.out;omega)
     rw[Zu] at hJ;have HJ:=hd_ hJ;have HCP:Hid (zai p cs=zag p.kp cs p.kp.length++[baL (Lib.join (cs.drop p.kp.length) [47])]):=hd_ (by unfold zai;rw[HRS.out];rfl)
     generalize baL (Lib.join (cs.drop p.kp.length) [47])=x at HJ HCP;clear hJ hat hK;go_wp2_with fail;refine HJ.mono ?_;rintro e w6 ⟨rfl,hb6⟩;have HOW:=hd_ (z0n HF.2.2.2 hb6);have HBI:=hd_ (z0r HF.2.2.1 hb6);clear hb6;go_wp2_with (first
      | (at_builtin;refine z0k rfl rfl zac (z0n HOW (zR)) rfl (z0i _ [zS x] _ 1 1 rfl (by decide) _ (by simp)) rfl (HBI.alloc HBI.size _) (HBI.alloc HBI.size _).size (by simp [Value.oneCell']) (by omega) (by unfold maxLen;omega) ?_;intro A' c' w7 hown7 hbl7))
     have HO7:=hd_ hown7;have HB7:=hd_ hbl7;clear hown7 hbl7;go_wp2_with fail;go_ret2;refine⟨A',m+1,c',by rw[HF.out.2.1];rfl,z0r HB3 HB7,fun l hl=>?_⟩
     rw[HF.out.2.1] at hl;injection hl with hl
     rw[HCP.out] at hl;subst hl;have hm:=HF.out.1;refine⟨by rw[Zc,ZL,hm],?_⟩
     have h7:=Row.of_own HO7.out;show Row w7 1 _ (zag p.kp cs p.kp.length++[x]).length _
     rw[Zc,ZL,<- hm,Zs];exact h7
def zqd (w:zW)(p:Pat)(e:Ending)(w':zW):Prop:=e=.returned (.tuple #[zI (zbq p),.bool p.kr])/\zB w w'
theorem zqe (p:Pat)(A:zP)(c:Nat)(w:zW)(hp:zbx w (zL A p.kp.length c) p)(h0:z8w p=0):
  Calls prog 41 #[.agg #[zL A p.kp.length c,.bool p.kr]] w (zqd w p):=by
 have hB:=z0l w [zL A p.kp.length c,.bool p.kr] 56;have hA:zB w (w.alloc (zC #[zL A p.kp.length c,.bool p.kr] 56)):=zR;have HP:=hd_ hp;have HF:=hd_ (fun k (hk:k<p.kp.length)=>zd5 h0 hk);have hl12:=zcc h0;clear hp h0;go_enter func41,ntmps41;go_upto_region 1 with fail;generalize w.alloc (zC #[zL A p.kp.length c,.bool p.kr] 56)=W1 at hB hA |-;have d0:W1.cell? ⟨w.heap.size,0,none⟩=some (.slice A p.kp.length c):=hB.cell 0;have d1:W1.cell? ⟨w.heap.size,1,none⟩=some (.bool p.kr):=hB.cell 1;have HA:=hd_ hA;clear hA hB;go_wp2_with fail;go_loop [4,12] (fun s i=>∃ k:Nat,k<=p.kp.length/\i=zI k/\s=zI (zbp p.kp k)) (fun _ i=>p.kp.length - (intOf i).toNat)
 exact⟨0,Zg _,rfl,rfl⟩
 obtain⟨k,hk,rfl,rfl⟩:=hrel;have hsl:=zbt (l:=p.kp) k;by_cases hlt:k<p.kp.length
 ·obtain⟨ad,rfl,hab,x0⟩:=z20.at_ (HP.out.kw HA.out).1 hlt;have HT:=hd_ (fun X=>zbg p.kp[k] X ((HP.small) _ (Za _)));unfold zbd at HT;have HN:=hd_ (zbr hlt);rw[zb4 (HF.out k hlt)] at HT;generalize p.kp[k]=part at x0 HT HN;generalize z8r part=st at HT HN;generalize za5 part=sx at HT;generalize zbp p.kp k=m at HN hsl;clear hab;cases st with
  | false =>
   go_wp2_with fail;refine (HT _).mono ?_;rintro e w' ⟨rfl,rfl⟩;go_wp2_with fail;go_round
   exact⟨k+1,by omega,by go_num,by rw[HN.out];rfl⟩
   simp [intOf];omega
  | true =>
   go_wp2_with fail;refine (HT _).mono ?_;rintro e w' ⟨rfl,rfl⟩;go_wp2_with fail;go_round
   exact⟨k+1,by omega,by go_num,by rw[HN.out];go_num⟩
   simp [intOf];omega
 ·have hke:k=p.kp.length:=by omega
  subst hke;rw[zbs];go_wp2_with fail;go_region_law (fail)
  go_wp2_with fail;go_ret2;exact⟨rfl,HA.drew⟩
theorem zqf (ex:Bool)(l r:Pat)(A B:zP)(a b:Nat)(w:zW)(hL:zbx w (zL A l.kp.length a) l)(hR:zbx w (zL B r.kp.length b) r)(h1:z8w l=0)(h2:z8w r=0)(h3:zbq l=zbq r)(h4:l.kr=r.kr):
  Calls prog 18 #[.agg #[.bool ex,zL A l.kp.length a,.bool l.kr,zL B r.kp.length b,.bool r.kr]] w fun e w'=>e=.returned (zI 0)/\zB w w':=by
 have hB:=z0l w [.bool ex,zL A l.kp.length a,.bool l.kr,zL B r.kp.length b,.bool r.kr] 62;have hA:zB w (w.alloc (zC #[.bool ex,zL A l.kp.length a,.bool l.kr,zL B r.kp.length b,.bool r.kr] 62)):=zR;have HCL:=hd_ (fun X (hX:zB w X)=>zd3 l A a X (hL.kw hX).1 hL.small);have HCR:=hd_ (fun X (hX:zB w X)=>zd3 r B b X (hR.kw hX).1 hR.small);have HKL:=hd_ (fun X (hX:zB w X)=>zqe l A a X (hL.kw hX) h1);have HKR:=hd_ (fun X (hX:zB w X)=>zqe r B b X (hR.kw hX) h2);unfold zqd at HKL HKR;rw[h1] at HCL;rw[h2] at HCR;rw[<- h3,<- h4] at HKR;rw[<- h4] at HCR |-;rw[<- h4] at hB hA;clear hL hR h1 h2 h3 h4;generalize zbq l=n at HKL HKR;go_enter func18,ntmps18;go_upto_region 1 with fail;generalize w.alloc (zC #[.bool ex,zL A l.kp.length a,.bool l.kr,zL B r.kp.length b,.bool l.kr] 62)=W1 at hB hA |-;have d1:W1.cell? ⟨w.heap.size,1,none⟩=some (.slice A l.kp.length a):=hB.cell 1;have d2:W1.cell? ⟨w.heap.size,2,none⟩=some (.bool l.kr):=hB.cell 2;have HB:=hd_ hB;have HA:=hd_ hA;have HC:=hd_ (HCL W1 hA);clear hA hB HCL;go_wp2_with fail;refine HC.mono ?_;rintro e w2 ⟨rfl,hb⟩;have HB:=hd_ (HB.kw hb HB.lt);have HA:=hd_ (z0r HA hb);clear hb d1 d2 HC;have d3:w2.cell? ⟨w.heap.size,3,none⟩=some (.slice B r.kp.length b):=HB.cell 3;have d4:w2.cell? ⟨w.heap.size,4,none⟩=some (.bool l.kr):=HB.cell 4;have HC:=hd_ (HCR w2 HA);clear HCR;go_wp2_with fail;refine HC.mono ?_;rintro e w3 ⟨rfl,hb⟩;have HB:=hd_ (HB.kw hb HB.lt);have HA:=hd_ (z0r HA hb);clear hb d3 d4 HC;have d1:w3.cell? ⟨w.heap.size,1,none⟩=some (.slice A l.kp.length a):=HB.cell 1;have d2:w3.cell? ⟨w.heap.size,2,none⟩=some (.bool l.kr):=HB.cell 2;have HC:=hd_ (HKL w3 HA);clear HKL;go_wp2_with fail;refine HC.mono ?_;rintro e w4 ⟨rfl,hb⟩;have HB:=hd_ (HB.kw hb HB.lt)
 have HA:=hd_ (z0r HA hb);clear hb d1 d2 HC;have d3:w4.cell? ⟨w.heap.size,3,none⟩=some (.slice B r.kp.length b):=HB.cell 3;have d4:w4.cell? ⟨w.heap.size,4,none⟩=some (.bool l.kr):=HB.cell 4;have HC:=hd_ (HKR w4 HA);clear HKR;go_wp2_with fail;refine HC.mono ?_;rintro e w5 ⟨rfl,hb⟩;have HA:=hd_ (z0r HA hb);clear hb d3 d4 HC;have q1:((n:Int) != (n:Int))=false:=by simp
 cases l.kr
 all_goals
  go_wp2_with fail;go_ret;exact⟨rfl,HA⟩
