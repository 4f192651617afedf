/- A part. -/
import Derived.Test.YtlnjaagijaadmaaGreatDoorMvw14
import Derived.Deep.LoopGhost
set_option linter.unusedVariables false
set_option linter.unusedSimpArgs false
set_option maxHeartbeats 4000000
set_option maxRecDepth 100000
namespace Go.Proofs.YtlnjaagijaadmaaGreatDoor
open Go.Proofs.Tryz
open Go.RowKit
structure WiOk (p q:Pat):Prop where
 le:q.kp.length<=p.kp.length
 all:∀ k (h:k<q.kp.length),zbl (p.kp[k]'(Zq h le)) q.kp[k]=true
structure zd7 (p:Pat):Prop where
 kr:p.kr=true
 pat:z8w p=0
 star:∀ x∈p.kp,z8r x=false
structure zdb (l r h m:Pat):Prop where
 nl:zd7 l
 nr:zd7 r
 rule:zbw l r=0
 hole:z8w h=0
 meet:zc6 l h=some m
 mr:m.kr=true
 me:z8w m=0
 wi:WiOk m l
 len:r.kp.length+(m.kp.length - l.kp.length)<=12
open Go.Sort (grow)
section
variable {u0 u1 u2 u3 u4 u5 u6 u7 u8 u9 gF gG gH gI gJ gK gL gM gN gO gP gQ gR gT gV gW gX gY gZ i6 i7 i8 ia ib ic ie ig ii ij ik il im io ip iq ir iu iv iw iy iz iA iB iC iD iE iF iG iH iI iJ iK iL iM iN iO iP iQ iR iS iT iU iV iW iX iY iZ j0 j1 j2 j9 jb jd je jf jg jh ji : zV}
def zdo (w:zW)(v:zV)(es:List zdk):Prop:=Row w 5 v es.length (es.flatMap zdk.cells)/\∀ x∈es,zdl w x
theorem zdo.kw {w w':zW}{v:zV}{es:List zdk}(h:zdo w v es)(hb:zB w w'):zdo w' v es:=⟨Row.kw h.1 hb,fun x hx=>(h.2 x hx).kw hb⟩
def EntAt (w:zW)(a:Addr)(x:zdk):Prop:=w.cell? a=some x.l.v/\w.cell? ⟨a.block,a.off+1,none⟩=some (.bool x.l.1.kr)/\w.cell? ⟨a.block,a.off+2,none⟩=some x.r.v/\w.cell? ⟨a.block,a.off+3,none⟩=some (.bool x.r.1.kr)/\w.cell? ⟨a.block,a.off+4,none⟩=some x.hv
theorem zdo.at_ {w:zW}{A:zP}{c:Nat}{es:List zdk}(h:zdo w (zL A es.length c) es){k:Nat}(hk:k<es.length):
  ∃ ad,A=some ad/\ad.block<w.heap.size/\EntAt w (ad.add (k * 5)) es[k]:=by
 obtain⟨ad,e,hb,hc⟩:=z3z (f:=zdk.cells) (n:=5) (fun _=>rfl) h.1 hk;exact⟨ad,e,hb,hc 0 _ rfl,hc 1 _ rfl,hc 2 _ rfl,hc 3 _ rfl,hc 4 _ rfl⟩
theorem zdl.holes {w:zW}{x:zdk}(h:zdl w x):∃ H c,x.hv=zL H x.hs.length c:=by
 obtain⟨H,c,e,-⟩:=h.h.1;exact⟨H,c,e⟩
structure EntOk (x:zdk):Prop where
 rule:zbw x.l.1 x.r.1=0
 reg:zdf x.l.1 x.hs=0
 nar:∀ q∈x.hs,∃ m,zdb x.l.1 x.r.1 q.1 m
structure zdp (es:List zdk):Prop where
 len:es.length<=32
 ok:∀ x∈es,EntOk x
 apart:∀(i j:Nat) (hi:i<es.length) (hj:j<i),zc6 es[i].l.1 (es[j]'(ZZ hj hi)).l.1=none/\zc6 es[i].r.1 (es[j]'(ZZ hj hi)).r.1=none
def zdq (wr:zW)(g:Nat)(es:List zdk)(i:Nat):Prop:=∃ cs:List zV,Blk wr g 66 cs/\cs.length=es.length * 3/\∀(j:Nat) (hj:j<es.length),j<i->∃ A m c,cs[j * 3]? = some es[j].r.v/\cs[j * 3+1]? = some (.bool es[j].r.1.kr)/\cs[j * 3+2]? = some (.slice A m c)
theorem zdq.ku {w w':zW}{g:Nat}{es:List zdk}{i:Nat}(h:zdq w g es i)(hb:zB w w'):zdq w' g es i:=by
 obtain⟨cs,h1,h2,h3⟩:=h;exact⟨cs,h1.kw hb h1.lt,h2,h3⟩
theorem zdq.put {w:zW}{g:Nat}{es:List zdk}{i:Nat}(h:zdq w g es i)(hi:i<es.length)(A:zP)(m c:Nat):
  zdq (((w.setCell ⟨g,i * 3,none⟩ es[i].r.v).setCell ⟨g,i * 3+1,none⟩ (.bool es[i].r.1.kr)).setCell ⟨g,i * 3+2,none⟩ (zL A m c)) g es (i+1):=by
 obtain⟨cs,h1,h2,h3⟩:=h;refine⟨_,((h1.set_ (i * 3) _).set_ (i * 3+1) _).set_ (i * 3+2) _,by simp [h2],fun j hj hji=>?_⟩
 by_cases e:j=i
 ·subst e;refine⟨A,m,c,?_,?_,?_⟩
  ·rw[Zx (by omega),Zx (by omega),Yb (by omega)]
  ·rw[Zx (by omega),Yb (by simp;omega)]
  ·rw[Yb (by simp;omega)]
 ·obtain⟨A',m',c',e1,e2,e3⟩:=h3 j hj (by omega)
  refine⟨A',m',c',?_,?_,?_⟩
  ·rw[Zx (by omega),Zx (by omega),Zx (by omega)];exact e1
  ·rw[Zx (by omega),Zx (by omega),Zx (by omega)];exact e2
  ·rw[Zx (by omega),Zx (by omega),Zx (by omega)];exact e3
theorem zdq.facts {w:zW}{g:Nat}{es:List zdk}{i:Nat}(h:zdq w g es i){j:Nat}(hj:j<es.length):
  ((∃ u,w.cell? ⟨g,j * 3,none⟩=some u)/\(∃ u,w.cell? ⟨g,j * 3+1,none⟩=some u)/\∃ u,w.cell? ⟨g,j * 3+2,none⟩=some u)/\w.frozen? ⟨g,j * 3,none⟩=false/\w.frozen? ⟨g,j * 3+1,none⟩=false/\w.frozen? ⟨g,j * 3+2,none⟩=false:=by
 obtain⟨cs,h1,h2,h3⟩:=h;refine⟨⟨?_,?_,?_⟩,h1.frozen _,h1.frozen _,h1.frozen _⟩
 ·exact⟨cs[j * 3]'(by omega),by rw[h1.cell,Ze]⟩
 ·exact⟨cs[j * 3+1]'(by omega),by rw[h1.cell,Ze]⟩
 ·exact⟨cs[j * 3+2]'(by omega),by rw[h1.cell,Ze]⟩
theorem zdq.at_ {w:zW}{g:Nat}{es:List zdk}{i:Nat}(h:zdq w g es i){j:Nat}(hj:j<es.length)(hi:j<i):
  ∃ A m c,w.cell? ⟨g,j * 3,none⟩=some es[j].r.v/\w.cell? ⟨g,j * 3+1,none⟩=some (.bool es[j].r.1.kr)/\w.cell? ⟨g,j * 3+2,none⟩=some (.slice A m c):=by
 obtain⟨cs,h1,h2,h3⟩:=h;obtain⟨A,m,c,e1,e2,e3⟩:=h3 j hj hi;exact⟨A,m,c,by rw[h1.cell,e1],by rw[h1.cell,e2],by rw[h1.cell,e3]⟩
theorem zuu (n:Nat)(hn:n<=1000)(w:zW):(Instr.makeSlice 115 (zI n) (zI n)).run prog w=.ok (zL (some ⟨w.heap.size,0,none⟩) n n) (w.alloc (.cells (mkL [zL none 0 0,.bool false,zL none 0 0] n).toArray 66)):=
 run_mk (z:=.agg #[zL none 0 0,.bool false,zL none 0 0]) (bytes:=56) (size:=3) underlying115 (by kernel_rfl) (by decide) (zs:=[zL none 0 0,.bool false,zL none 0 0]) rfl rfl n .i64 .i64 (by omega) (by omega) w
theorem zdr {P:Program}{t e:TypeId}{size n c k:Nat}{A:zP}(ht:P.underlying t=some (.slice e))(hs:∀ w,(sizeOf e).run P w=.ok size w)(hk:k<=c)(X:zW):
  (Instr.sliceAt t (zL A n c) none (some (zI k)) none).run P X=.ok (zL A k c) X:=by
 have he:P.elem t=e:=by simp [Program.elem,ht]
 have ht':P.underlying t=some (.slice (P.elem t)):=by rw[he];exact ht
 rw[run_sliceAt_slice X t _ _ _ _ ht',run_slice_h X t A n c ht' _ _ (by omega) (by omega),he,hs]
 have h0:A.map (fun a=>a.add (0 * size))=A:=by
  cases A with
  | none=>rfl
  | some a=>simp [Addr.add]
 simp only[Result.andThen,sliced]
 rw[h0];simp
theorem zds (w:zW):(sizeOf 59).run prog w=.ok 5 w:=by kernel_rfl
end
theorem zew {w w':zW}(h:zB w w')(row:Option Nat):w.grownBy w' row:=⟨h.os,h.tape,h.output,h.size,fun k hk _=>h.block k hk⟩
theorem zex {w:zW}{B:Nat}{es:Array MapEntry}{c:Nat}(h:w.heap[B]? = some (.map es c))(a:Addr)(ha:a.block=B):¬ ∃ v,w.cell? a=some v:=by
 rintro⟨v,hv⟩;subst ha;unfold World.cell? at hv
 rw[h] at hv;simp at hv
theorem z2l.obj {κ α:Type}[BEq κ]{kv:κ->zV}{enc:α->zV}{w:zW}{B:Nat}{f:κ->Option α}(h:z2l kv enc w B f):∃ es c,w.heap[B]? = some (.map es c):=by
 obtain⟨m,⟨es,c,h,_⟩,_⟩:=h;exact⟨es,c,h⟩
theorem Row.turn {w w':zW}{size n B:Nat}{v:zV}{xs:List zV}(h:Row w size v n xs)(hs:0<size)(hm:∃ es c,w.heap[B]? = some (.map es c))(hg:w.grownBy w' (some B)):Row w' size v n xs:=by
 obtain⟨A,c,rfl,hc,hm',hl,h0,hx⟩:=h;refine⟨A,c,rfl,hc,hm',hl,h0,fun hn=>?_⟩;obtain⟨ad,e,hb,hcell⟩:=hx hn;obtain⟨es,c2,hB⟩:=hm;have hne:some ad.block≠some B:=by
  intro e2;injection e2 with e2
  have hpos:0<xs.length:=by rw[hl];exact Nat.mul_pos hn hs
  exact zex hB (ad.add 0) (by rw[z00];exact e2) ⟨xs[0],hcell 0 _ (by simp [hpos])⟩
 refine⟨ad,e,by have:=hg.size;omega,fun j u hu=>?_⟩
 exact hg.cell (hcell j u hu) (by rw[z00];exact hne)
theorem Blk.turn {w w':zW}{g B:Nat}{e:TypeId}{cs:List zV}(h:Blk w g e cs)(hm:∃ es c,w.heap[B]? = some (.map es c))(hg:w.grownBy w' (some B)):Blk w' g e cs:=by
 refine Blk.grown h hg ?_;intro e2;injection e2 with e2
 subst e2;obtain⟨es,c,hB⟩:=hm;unfold Blk at h;rw[hB] at h;cases h
theorem zey (p:zA)(b:Bool)(h:z2y p=b)(w:zW)(hp:p.size<=140737488355328):Calls prog 50 #[zS p] w fun e w'=>e=.returned (.bool b)/\w=w':=by
 rw[<- h];exact z3i p w hp
theorem zge (r:Rev)(w:zW):Calls prog 30 #[.agg #[zS r.kt,zI r.num,zI r.chg,zI r.act,zI r.ty.base,.bool r.ty.k,.bool r.ty.l,.bool r.ty.x,.int .u64 r.sum,zI r.size,zS r.frm,zI r.fnum]] w fun e w'=>e=.returned (.bool (!z32 r.act))/\zB w w':=by
 have hA:zB w (w.alloc (zC #[zS r.kt,zI r.num,zI r.chg,zI r.act,zI r.ty.base,.bool r.ty.k,.bool r.ty.l,.bool r.ty.x,.int .u64 r.sum,zI r.size,zS r.frm,zI r.fnum] 78)):=zR;by_cases h3:r.act=3
 ·have q:(r.act == 3)=true:=by simpa using h3
  have HL:Hid ((!z32 r.act)=true):=hd_ (by rw[h3];rfl)
  clear h3;go_enter func30,ntmps30;go_wp2_with fail;go_ret;exact⟨z12 HL.symm,hA⟩
 ·have q:(r.act == 3)=false:=by simpa using h3
  by_cases h5:r.act=5
  ·have q5:(r.act == 5)=true:=by simpa using h5
   have HL:Hid ((!z32 r.act)=true):=hd_ (by rw[h5];rfl)
   clear h3 h5;go_enter func30,ntmps30;go_wp2_with fail;go_ret;exact⟨z12 HL.symm,hA⟩
  ·have q5:(r.act == 5)=false:=by simpa using h5
   have HL:Hid ((!z32 r.act)=false):=hd_ (by unfold z32;simp [h3,h5])
   clear h3 h5;go_enter func30,ntmps30;go_wp2_with fail;go_ret;exact⟨z12 HL.symm,hA⟩
def zgo (es:List Edt)(x:Edt):Nat:=es.countP fun y=>(decide (x.act=5) && decide (y.act=4) && decide (y.frm=x.kt)) || (decide (x.act=4) && decide (y.act=5) && decide (y.kt=x.frm))
def zgp (es:List Edt)(x:Edt):Bool:=decide (zgo es x=1) || (decide (x.act≠5) && decide (x.act≠4))
def SbV:zV->Bool
 | zS _=>true
 | .bool _=>true
 | _=>false
def zk6 (w:zW)(g:Nat):Prop:=∀(off:Nat) u,w.cell? ⟨g,off,none⟩=some u->SbV u=false
theorem zk7 {w:zW}{ad:Addr}{u:zV}(h:w.cell? ad=some u):w.cell? ⟨ad.block,ad.off,none⟩=some u:=by
 obtain⟨b,o,s⟩:=ad;cases s with
 | none=>exact h
 | some k =>
  unfold World.cell? at h
  split at h
  ·simp at h
  ·cases h
theorem Row.kn {S:List Nat}{w w':zW}{size n:Nat}{v:zV}{xs:List zV}(h:Row w size v n xs)(hK:z49 S w w')(hS:∀ g∈S,zk6 w g)(hx:0<n->∃(j:Nat) (u:zV),xs[j]? = some u/\SbV u=true):Row w' size v n xs:=by
 obtain⟨A,c,rfl,hc,hm,hl,h0,hr⟩:=id h;rcases ZU n with hn | hn
 ·exact⟨A,c,rfl,hc,hm,hl,h0,fun hp=>by omega⟩
 ·obtain⟨ad,rfl,hb,hcell⟩:=hr hn;refine Row.kept h hK fun hmem=>?_;obtain⟨j,u,hj,hu⟩:=hx hn;have h1:=zk7 (hcell j u hj);rw[z00] at h1;rw[hS _ hmem _ _ h1] at hu;cases hu
theorem z20.kn {S:List Nat}{w w':zW}{v:zV}{l:List zA}(h:z20 w v l)(hK:z49 S w w')(hS:∀ g∈S,zk6 w g):z20 w' v l:=
 Row.kn h hK hS fun hn=>⟨0,zS (l[0]'hn),by rw[ZA,Ze hn];rfl,rfl⟩
theorem zbx.kn {S:List Nat}{w w':zW}{v:zV}{p:Pat}(h:zbx w v p)(hK:z49 S w w')(hS:∀ g∈S,zk6 w g):zbx w' v p:=⟨h.1.kn hK hS,h.2⟩
theorem HolesIn.kn {S:List Nat}{w w':zW}{v:zV}{hs:List PatM}(h:HolesIn w v hs)(hK:z49 S w w')(hS:∀ g∈S,zk6 w g):HolesIn w' v hs:=
 ⟨Row.kn h.1 hK hS fun hn=>⟨1,.bool (hs[0]'hn).1.kr,by
  cases hs with
  | nil=>simp at hn
  | cons q hs=>rfl,rfl⟩,fun q hq=>(h.2 q hq).kn hK hS⟩
theorem zdo.kn {S:List Nat}{w w':zW}{v:zV}{es:List zdk}(h:zdo w v es)(hK:z49 S w w')(hS:∀ g∈S,zk6 w g):zdo w' v es:=
 ⟨Row.kn h.1 hK hS fun hn=>⟨1,.bool (es[0]'hn).l.1.kr,by
  cases es with
  | nil=>simp at hn
  | cons q hs=>rfl,rfl⟩,fun x hx=>⟨(h.2 x hx).l.kn hK hS,(h.2 x hx).r.kn hK hS,(h.2 x hx).h.kn hK hS,(h.2 x hx).n⟩⟩
theorem z3w.kn {S:List Nat}{w w':zW}{v:zV}{D:List Rev}(h:z3w w v D)(hK:z49 S w w')(hS:∀ g∈S,zk6 w g):z3w w' v D:=
 Row.kn h hK hS fun hn=>⟨0,zS (D[0]'hn).kt,by
  cases D with
  | nil=>simp at hn
  | cons q hs=>rfl,rfl⟩
theorem z5s.kn {S:List Nat}{w w':zW}{v:zV}{l:List Hav}(h:z5s w v l)(hK:z49 S w w')(hS:∀ g∈S,zk6 w g):z5s w' v l:=
 Row.kn h hK hS fun hn=>⟨0,zS (l[0]'hn).kt,by
  cases l with
  | nil=>simp at hn
  | cons q hs=>rfl,rfl⟩
theorem zk6.blk {w:zW}{g:Nat}{e:TypeId}{cs:List zV}(h:Blk w g e cs)(hc:∀ u∈cs,SbV u=false):zk6 w g:=fun off u hu=>by
 rw[h.cell off] at hu;exact hc u (List.mem_of_getElem? hu)
theorem z4d.nosb {w:zW}{U g m:Nat}(h:z4d w U g m):∀ x∈[g],zk6 w x:=by
 obtain⟨l,A,c,a,h1,-⟩:=h;intro x hx;rw[Zm] at hx;subst hx;exact zk6.blk h1 (by simp [SbV])
theorem insideW (p q:Pat)(A B:zP)(a b:Nat)(w:zW)(hp:zbx w (zL A p.kp.length a) p)(hq:zbx w (zL B q.kp.length b) q)(hw:Wi p q):
  Calls prog 231 #[.agg #[zL A p.kp.length a,.bool p.kr],.agg #[zL B q.kp.length b,.bool q.kr]] w fun e w'=>e=.returned (.bool true)/\zB w w':=by
 have hA:zB w ((w.alloc (zC #[zL A p.kp.length a,.bool p.kr] 56)).alloc (zC #[zL B q.kp.length b,.bool q.kr] 56)):=(zR).alloc (by simp) _
 have h2:zch ((w.alloc (zC #[zL A p.kp.length a,.bool p.kr] 56)).alloc (zC #[zL B q.kp.length b,.bool q.kr] 56)) w.heap.size (zL A p.kp.length a) p.kr:=(z0l w [zL A p.kp.length a,.bool p.kr] 56).alloc _;have h3:zch ((w.alloc (zC #[zL A p.kp.length a,.bool p.kr] 56)).alloc (zC #[zL B q.kp.length b,.bool q.kr] 56)) (w.heap.size+1) (zL B q.kp.length b) q.kr:=by
  have:=z0l (w.alloc (zC #[zL A p.kp.length a,.bool p.kr] 56)) [zL B q.kp.length b,.bool q.kr] 56;rw[Zl] at this;exact this
 have q1:decide (p.kp.length<q.kp.length)=false:=by have:=hw.le;simp;omega
 have hlq:q.kp.length<=9223372036854775807:=by
  obtain⟨A',c',e',hcc,hmm,-⟩:=id hq.1;injection e' with e1 e2 e3
  unfold maxLen at hmm;omega
 have HP:=hd_ hp;have HQ:=hd_ hq;have HW:=hd_ hw;have hr:=zhp hw;clear hp hq hw;go_enter func231,ntmps231;go_upto_region 1 with fail;generalize (w.alloc (zC #[zL A p.kp.length a,.bool p.kr] 56)).alloc (zC #[zL B q.kp.length b,.bool q.kr] 56)=W1 at hA h2 h3 |-;have x0:=h2.c0;have x1:=h2.c1;have y0:=h3.c0;have y1:=h3.c1;have H:=hd_ (Zi hA (Zi h2 h3));clear hA h2 h3;have hcase:(q.kr=true/\p.kr=true)\/(q.kr=true/\p.kr=false/\((p.kp.length:Int) == (q.kp.length:Int))=false)\/(q.kr=false/\p.kr=false/\((p.kp.length:Int) != (q.kp.length:Int))=false):=by
  rcases hr with⟨a,b⟩ | ⟨a,b,c⟩
  ·cases hpr:p.kr with
   | true=>exact .inl ⟨a,rfl⟩
   | false =>
    rcases b with b | b
    ·rw[hpr] at b;cases b
    ·exact .inr (.inl ⟨a,rfl,by simp;omega⟩)
  ·exact .inr (.inr ⟨a,b,by simp;omega⟩)
 clear hr;rcases hcase with⟨e1,e2⟩ | ⟨e1,e2,q2⟩ | ⟨e1,e2,q2⟩
 all_goals
  rw[e1] at y1;rw[e2] at x1;clear e1 e2;go_quiet (fail)
  go_wp2_with fail;go_loopw [50] (fun i wr=>∃ k:Nat,i=zI k/\k<=q.kp.length/\Hid (zB W1 wr)) (fun i _=>q.kp.length - (intOf i).toNat)
  exact⟨0,rfl,Zg _,hd_ (z48 _ _)⟩
  obtain⟨k,rfl,hk,HI⟩:=hrel;clear x0 x1 y0 y1;try clear q2
  by_cases hlt:k<q.kp.length
  ·have hlp:k<p.kp.length:=Zq hlt HW.le;obtain⟨ad,rfl,hab,s0⟩:=z20.at_ (HQ.out.kw (z0r H.out.1 HI.out)).1 hlt;obtain⟨ae,rfl,hae,r0⟩:=z20.at_ (HP.out.kw (z0r H.out.1 HI.out)).1 hlp;have x0:=(H.out.2.1.low HI.out).c0;have HC:=hd_ (fun X=>zbn p.kp[k] q.kp[k] X (HP.2 _ (Za _)) (HQ.2 _ (Za _)));rw[HW.out.all k hlt] at HC;generalize p.kp[k]=s at r0 HC;generalize q.kp[k]=t at s0 HC;have HLT:=hd_ hlt;have hz:(k:Int)<(p.kp.length:Int):=by omega
   clear hab hae;go_wp2_with fail;refine (HC _).mono ?_;rintro e w3 ⟨rfl,hb3⟩;have HB:=hd_ (z0r HI hb3);clear hb3 x0 s0 r0;go_wp2_with fail;go_roundw
   exact⟨k+1,by go_num,by omega,HB⟩
   simp [intOf];omega
  ·have hke:k=q.kp.length:=by omega
   subst hke;have HB:=hd_ (z0r H.1 HI);have hge:¬((q.kp.length:Int)<(q.kp.length:Int)):=by omega
   go_wp2_with fail;go_ret;exact⟨rfl,HB⟩
theorem withinW (p q:Pat)(A B:zP)(a b:Nat)(w:zW)(hp:zbx w (zL A p.kp.length a) p)(hq:zbx w (zL B q.kp.length b) q)(hpe:z8w p=0)(hqe:z8w q=0)(hw:Wi p q):
  Calls prog 218 #[.agg #[zL A p.kp.length a,.bool p.kr],.agg #[zL B q.kp.length b,.bool q.kr]] w fun e w'=>e=.returned (.bool true)/\zB w w':=by
 have hA:zB w ((w.alloc (zC #[zL A p.kp.length a,.bool p.kr] 56)).alloc (zC #[zL B q.kp.length b,.bool q.kr] 56)):=(zR).alloc (by simp) _
 have h2:zch ((w.alloc (zC #[zL A p.kp.length a,.bool p.kr] 56)).alloc (zC #[zL B q.kp.length b,.bool q.kr] 56)) w.heap.size (zL A p.kp.length a) p.kr:=(z0l w [zL A p.kp.length a,.bool p.kr] 56).alloc _;have h3:zch ((w.alloc (zC #[zL A p.kp.length a,.bool p.kr] 56)).alloc (zC #[zL B q.kp.length b,.bool q.kr] 56)) (w.heap.size+1) (zL B q.kp.length b) q.kr:=by
  have:=z0l (w.alloc (zC #[zL A p.kp.length a,.bool p.kr] 56)) [zL B q.kp.length b,.bool q.kr] 56;rw[Zl] at this;exact this
 have HCP:=hd_ (fun X (hX:zB w X)=>z99 p A a X (hp.kw hX).1 hp.small);have HCQ:=hd_ (fun X (hX:zB w X)=>z99 q B b X (hq.kw hX).1 hq.small);rw[hpe] at HCP;rw[hqe] at HCQ;have HIN:=hd_ (fun X (hX:zB w X)=>insideW p q A B a b X (hp.kw hX) (hq.kw hX) hw);clear hp hq hw hpe hqe;go_enter func218,ntmps218;go_upto_region 1 with fail;generalize (w.alloc (zC #[zL A p.kp.length a,.bool p.kr] 56)).alloc (zC #[zL B q.kp.length b,.bool q.kr] 56)=W1 at hA h2 h3 |-;have x0:=h2.c0;have x1:=h2.c1;have H:=hd_ (Zi hA (Zi h2 h3));have HC1:=hd_ (HCP W1 hA);clear hA h2 h3;go_wp2_with fail;refine HC1.mono ?_;rintro e w2 ⟨rfl,hb⟩;have HB:=hd_ (z0r H.1 hb);have HG:=hd_ (Zi (H.out.2.1.low hb) (H.out.2.2.low hb));have y0:=HG.out.2.c0;have y1:=HG.out.2.c1;have HC2:=hd_ (HCQ w2 HB);clear hb x0 x1;go_wp2_with fail;refine HC2.mono ?_;rintro e w3 ⟨rfl,hb⟩;have HB3:=hd_ (z0r HB hb);have x0:=(HG.out.1.low hb).c0;have x1:=(HG.out.1.low hb).c1;have z0:=(HG.out.2.low hb).c0;have z1:=(HG.out.2.low hb).c1;have HC3:=hd_ (HIN w3 HB3);clear hb y0 y1;go_wp2_with fail;refine HC3.mono ?_;rintro e w4 ⟨rfl,hb⟩;have HB4:=hd_ (z0r HB3 hb);clear hb x0 x1 z0 z1;go_wp2_with fail;go_ret;exact⟨rfl,HB4⟩
theorem zhx (l:List zA)(br r:Bool)(A:zP)(c:Nat)(w:zW)(hS:z20 w (zL A l.length c) l)(hz:∀ x∈l,x.size<=maxLen)(hf:∀ x∈l,z8t x≠0)(hr:(r=true/\(l.length≠0\/br=true))\/(r=false/\l.length=1/\br=false)):
  Calls prog 220 #[.agg #[zL A l.length c,.bool br],.bool r] w fun e w'=>e=.returned (.bool true)/\zB w w':=by
 have hB:=z0l w [zL A l.length c,.bool br] 213;have hA:zB w (w.alloc (zC #[zL A l.length c,.bool br] 213)):=zR;obtain⟨A',c',e',hcc,hmm,-⟩:=id hS;injection e' with e1 e2 e3
 subst e1 e3;have HS:=hd_ hS;have HF:=hd_ (fun x (hx:x∈l) X=>z93 x X (hz x hx));have HN:=hd_ hf;clear hS hz hf;unfold maxLen at hmm;go_enter func220,ntmps220;go_upto_region 1 with fail;generalize w.alloc (zC #[zL A l.length c,.bool br] 213)=W1 at hB hA |-;have d0:W1.cell? ⟨w.heap.size,0,none⟩=some (.slice A l.length c):=hB.cell 0;have d1:W1.cell? ⟨w.heap.size,1,none⟩=some (.bool br):=hB.cell 1;have HA:=hd_ hA;clear hB hA;have hcase:(r=true/\((l.length:Int) == 0)=false)\/(r=true/\br=true/\((l.length:Int) == 0)=true)\/(r=false/\br=false/\((l.length:Int) == 0)=false/\((l.length:Int) != 1)=false):=by
  rcases hr with⟨a,b⟩ | ⟨a,b,c⟩
  ·by_cases h:l.length=0
   ·exact .inr (.inl ⟨a,b.resolve_left (fun hn=>hn h),beq_iff_eq.2 (by omega)⟩)
   ·exact .inl ⟨a,beq_eq_false_iff_ne.2 (by omega)⟩
  ·exact .inr (.inr ⟨a,c,beq_eq_false_iff_ne.2 (by omega),bne_eq_false_iff_eq.2 (by omega)⟩)
 clear hr;rcases hcase with⟨rfl,q0⟩ | ⟨rfl,rfl,q0⟩ | ⟨rfl,rfl,q0,q1⟩
 all_goals
  go_wp2_with fail;go_loopw [33] (fun i wr=>∃ k:Nat,i=zI k/\k<=l.length/\Hid (zB W1 wr)) (fun i _=>l.length - (intOf i).toNat)
  exact⟨0,rfl,Zg _,hd_ (Zb _ _)⟩
  obtain⟨k,rfl,hk,HI⟩:=hrel;clear d0 d1;try clear q1
  by_cases hlt:k<l.length
  ·obtain⟨ad,rfl,hab,s0⟩:=z20.at_ (HS.out.kw (z0r HA.out HI.out)) hlt;have HC:=hd_ (HF l[k] (Za _));have hn:=HN.out l[k] (Za _);generalize l[k]=s at s0 HC hn;have qn:(z8t s == 0)=false:=by simpa using hn
   have HLT:=hd_ hlt;clear hab hn;generalize z8t s=fi at HC qn;go_wp2_with (go_at_call 164;refine (HC _).mono ?_;rintro e w' ⟨rfl,rfl⟩)
   go_roundw
   exact⟨k+1,by go_num,by omega,HI⟩
   simp [intOf];omega
  ·have hke:k=l.length:=by omega
   subst hke;have HB:=hd_ (z0r HA HI);have hge:¬((l.length:Int)<(l.length:Int)):=by omega
   go_wp2_with fail;go_ret;exact⟨rfl,HB⟩
def zk9 (hs:List Hav)(p:zA):zA:=((z7j hs p).map Hav.loc).getD z2r
section
variable {hs ws : List Hav} {op dt : List zA}
theorem zka {l:List Hav}{p:zA}{a:Hav}(h:z7j l p=some a):a∈l/\a.kt=p:=z78 h
theorem zvi {l:List Hav}(h:z81 l){a:Hav}(ha:a∈l):z7j l a.kt=some a:=z7b h.srt ha
end
abbrev Fl:=zA×zA
def Shut (b:zA->Bool)(pr:List Syn)(p l:zA):Prop:=∀ x∈pr,z5d x.kind=false->b x.kt=false->x.dst≠z2r->x.dst=l->x.kt=p
structure BkIn (hs:List Hav)(pl:List Syn)(b:zA->Bool)(Q:List Fl)(p l:zA)(pr:List Syn):Prop where
 sound:∀ q,b q=true->Bl hs pl q
 one:(∃ h∈hs,h.kt=p/\h.loc=l)/\z7z pl b p
 que:∀ q∈Q,(∃ h∈hs,h.kt=q.1/\h.loc=q.2)/\z7z pl b q.1
 done:∀ h∈hs,z7z pl b h.kt->(h.kt,h.loc)∈Q\/Shut b pl h.kt h.loc\/(h.kt=p/\h.loc=l)
 shut:Shut b pr p l
structure BkSt (hs:List Hav)(pl:List Syn)(b:zA->Bool)(Q:List Fl):Prop where
 sound:∀ q,b q=true->Bl hs pl q
 que:∀ q∈Q,(∃ h∈hs,h.kt=q.1/\h.loc=q.2)/\z7z pl b q.1
 done:∀ h∈hs,z7z pl b h.kt->(h.kt,h.loc)∈Q\/Shut b pl h.kt h.loc
def setB (b:zA->Bool)(p:zA):zA->Bool:=fun q=>decide (q=p) || b q
section
variable {hs : List Hav} {pl : List Syn} {b : zA -> Bool} {Q : List Fl}
theorem zkb {p q:zA}(h:b q=true):setB b p q=true:=by unfold setB;rw[h,Bool.or_true]
theorem zkc {p:zA}:setB b p p=true:=by unfold setB;simp
theorem zkd {p q:zA}(h:setB b p q=true):q=p\/b q=true:=by unfold setB at h;simpa using h
theorem zke {p q:zA}(h:setB b p q=false):q≠p/\b q=false:=by
 unfold setB at h;simp only[Bool.or_eq_false_iff,decide_eq_false_iff_not] at h
 exact h
theorem zkf {p q:zA}(h:z7z pl b q):z7z pl (setB b p) q:=by
 rcases h with h | ⟨y,h,h1 | h1⟩
 ·exact .inl h
 ·exact .inr ⟨y,h,.inl h1⟩
 ·exact .inr ⟨y,h,.inr (zkb h1)⟩
theorem zkg {p q l:zA}{pr:List Syn}(h:Shut b pr q l):Shut (setB b p) pr q l:=fun x hx h1 h2=>h x hx h1 (zke h2).2
theorem bk_init (hs:List Hav)(pl:List Syn)(Q:List Fl)(hq:∀ q,q∈Q↔∃ h∈hs,(h.kt,h.loc)=q/\z7z pl (fun _=>false) h.kt):BkSt hs pl (fun _=>false) Q:=
 ⟨(fun q h=>by cases h),(fun q hQ=>by
  obtain⟨f,h1,h2,h3⟩:=(hq q).1 hQ;subst h2;exact⟨⟨f,h1,rfl,rfl⟩,h3⟩),fun f hh hs2=>.inl ((hq _).2 ⟨f,hh,rfl,hs2⟩)⟩
theorem bk_pop {p l:zA}(h:BkSt hs pl b ((p,l) :: Q)):BkIn hs pl b Q p l []:=
 ⟨h.sound,h.que _ (Zj ..),fun q hq=>h.que q (Zh _ hq),(fun x hx hs2=>by
  rcases h.done x hx hs2 with h1 | h1
  ·rcases Zn.1 h1 with h1 | h1
   ·exact .inr (.inr (by injection h1 with a c;exact⟨a,c⟩))
   ·exact .inl h1
  ·exact .inr (.inl h1)),(fun x hx=>by cases hx)⟩
theorem bk_skip {p l:zA}{pr:List Syn}{x:Syn}(h:BkIn hs pl b Q p l pr)(hx:x.kt=p\/z5d x.kind=true\/b x.kt=true):BkIn hs pl b Q p l (pr++[x]):=
 ⟨h.sound,h.one,h.que,h.done,fun y hy h1 h2 h3 h4=>by
  rcases Zy.1 hy with hy | hy
  ·exact h.shut y hy h1 h2 h3 h4
  ·rw[Zm] at hy;subst hy;rcases hx with e | e | e
   ·exact e
   ·rw[h1] at e;cases e
   ·rw[h2] at e;cases e⟩
theorem zkh {p l:zA}{pr:List Syn}{x:Syn}(hsrt:z7i pl)(h1:z81 hs)(hfrm:∀ x∈pl,x.frm=zk9 hs x.kt)(h:BkIn hs pl b Q p l pr)(hx:x∈pl)(hp:x.kt≠p)(hk:z5d x.kind=false)(hd:x.dst≠z2r)(hl:x.dst=l):
  BkIn hs pl (setB b x.kt) (if x.frm=z2r then Q else Q++[(x.kt,x.frm)]) p l (pr++[x]):=by
 have hg:z7k pl x.kt=some x:=z7b hsrt hx;have hst:z7z pl (setB b x.kt) x.kt:=.inr ⟨x,hg,.inr zkc⟩;obtain⟨⟨f,f1,f2,f3⟩,f4⟩:=h.one;refine⟨fun q hq=>?_,⟨⟨f,f1,f2,f3⟩,zkf f4⟩,fun q hq=>?_,fun y hy hs2=>?_,fun y hy e1 e2 e3 e4=>?_⟩
 ·rcases zkd hq with rfl | hq
  ·exact z80 h.sound hx hk hd f1 (by rw[f3,hl]) (by rw[f2];exact fun e=>hp e.symm) (by rw[f2];exact f4)
  ·exact h.sound q hq
 ·by_cases hf:x.frm=z2r
  ·rw[if_pos hf] at hq;obtain⟨a,c⟩:=h.que q hq;exact⟨a,zkf c⟩
  ·rw[if_neg hf] at hq;rcases Zy.1 hq with hq | hq
   ·obtain⟨a,c⟩:=h.que q hq;exact⟨a,zkf c⟩
   ·rw[Zm] at hq;subst hq;refine⟨?_,hst⟩;have e:=hfrm x hx;unfold zk9 at e;cases hh:z7j hs x.kt with
    | none=>rw[hh] at e;exact absurd e hf
    | some a =>
     rw[hh] at e;obtain⟨m1,m2⟩:=zka hh;exact⟨a,m1,m2,e.symm⟩
 ·by_cases ep:y.kt=x.kt
  ·-- the file of the step that was blocked just now
   have e:=hfrm x hx;unfold zk9 at e;rw[<- ep,zvi h1 hy] at e;have e':x.frm=y.loc:=e;have hf:¬ x.frm=z2r:=by rw[e'];exact h1.locNe hy
   rw[if_neg hf];exact .inl (Zy.2 (.inr (by rw[Zm,ep,e'])))
  ·have hs3:z7z pl b y.kt:=by
    rcases hs2 with h2 | ⟨z,h2,h3 | h3⟩
    ·exact .inl h2
    ·exact .inr ⟨z,h2,.inl h3⟩
    ·rcases zkd h3 with h3 | h3
     ·exact absurd h3 ep
     ·exact .inr ⟨z,h2,.inr h3⟩
   rcases h.done y hy hs3 with h2 | h2 | h2
   ·refine .inl ?_;split
    ·exact h2
    ·exact Zy.2 (.inl h2)
   ·exact .inr (.inl (zkg h2))
   ·exact .inr (.inr h2)
 ·obtain⟨o1,o2⟩:=zke e2;rcases Zy.1 hy with hy | hy
  ·exact h.shut y hy e1 o2 e3 e4
  ·rw[Zm] at hy;subst hy;exact absurd rfl o1
theorem bk_end {p l:zA}{pr:List Syn}(h1:z81 hs)(h:BkIn hs pl b Q p l pr)(hall:∀ x∈pl,x.dst≠z2r->x.dst=l->x∈pr):BkSt hs pl b Q:=
 ⟨h.sound,h.que,fun y hy hs2=>by
  rcases h.done y hy hs2 with h2 | h2 | ⟨h2,h3⟩
  ·exact .inl h2
  ·exact .inr h2
  ·refine .inr fun x hx e1 e2 e3 e4=>?_;rw[h3] at e4;rw[h2];exact h.shut x (hall x hx e3 e4) e1 e2 e3 e4⟩
theorem bk_over (h:BkSt hs pl b []):b=blB hs pl:=
 bl_eq h.sound fun x hx h1 h2 h3 f hf h4 h5 h6=>by
  rcases h.done f hf h6 with h7 | h7
  ·cases h7
  ·exact h5 (h7 x hx h1 h2 h3 h4.symm).symm
def zki (b:zA->Bool)(pl:List Syn):Nat:=(pl.filter fun x=>!z5d x.kind && !b x.kt).length
theorem zkj {x:Syn}(hx:x∈pl)(hk:z5d x.kind=false)(hb:b x.kt=false):zki (setB b x.kt) pl+1<=zki b pl:=by
 unfold zki;induction pl with
 | nil=>cases hx
 | cons y pl ih =>
  have le:∀ l:List Syn,(l.filter fun z=>!z5d z.kind && !(setB b x.kt) z.kt).length<=(l.filter fun z=>!z5d z.kind && !b z.kt).length:=by
   intro l;induction l with
   | nil=>exact Zd _
   | cons z l ih =>
    rw[List.filter_cons,List.filter_cons];by_cases c:(!z5d z.kind && !(setB b x.kt) z.kt)=true
    ·have c2:(!z5d z.kind && !b z.kt)=true:=by
      simp only[Zw,Bool.not_eq_true'] at c |-
      exact⟨c.1,(zke c.2).2⟩
     rw[if_pos c,if_pos c2];exact Nat.succ_le_succ ih
    ·rw[if_neg c];split
     ·exact Nat.le_succ_of_le ih
     ·exact ih
  rw[List.filter_cons,List.filter_cons];by_cases e:y.kt=x.kt
  ·have c1:¬(!z5d y.kind && !(setB b x.kt) y.kt)=true:=by rw[e,zkc];simp
   rw[if_neg c1];rcases Zn.1 hx with rfl | hx
   ·have c2:(!z5d x.kind && !b x.kt)=true:=by rw[hk,hb];rfl
    rw[if_pos c2];exact Nat.succ_le_succ (le pl)
   ·split
    ·exact Nat.le_succ_of_le (ih hx)
    ·exact ih hx
  ·have hx':x∈pl:=by
    rcases Zn.1 hx with rfl | h
    ·exact absurd rfl e
    ·exact h
   have same:(setB b x.kt) y.kt=b y.kt:=by unfold setB;rw[decide_eq_false e,Bool.false_or]
   rw[same];split
   ·exact Nat.succ_le_succ (ih hx')
   ·exact ih hx'
end
theorem zpj {xs ys:List zA}{k:Nat}{done:List zA}(h:zc7 xs ys k done)(hx:k<xs.length)(hy:ys.length<=k):zc7 xs ys (k+1) (done++[xs[k]]):=by
 refine⟨by rw[Zc,h.1];rfl,?_⟩
 rw[h.2,ZX hy,ZX (by omega:ys.length<=k+1),Zo hx]
 unfold zc3;simp
theorem zpk {xs ys:List zA}{done:List zA}(h:zc7 xs ys xs.length done)(hy:ys.length<=xs.length):zc3 xs ys=some done:=by
 rw[h.2,Yd,ZX hy];unfold zc3;simp
theorem zpl {x y:zA}(h:zbl x y=true):zbm x y=some x:=by unfold zbm;rw[if_pos h]
theorem zpm {x y:zA}(h:zbl x y=false)(h2:zbl y x=true):zbm x y=some y:=by unfold zbm;rw[if_neg (by rw[h];decide),if_pos h2]
theorem zpn {x y:zA}(h:zbl x y=false)(h2:zbl y x=false):zbm x y=none:=by unfold zbm;rw[if_neg (by rw[h];decide),if_neg (by rw[h2];decide)]
theorem zpo (n:Nat)(r:Bool)(m:Nat)(s:Bool):zc1 n r m s=zc1 m s n r:=by
 unfold zc1;cases r <;> cases s <;> simp [eq_comm]
theorem zpp {n m:Nat}{r s:Bool}(h:m<n):zc1 n r m s=s:=by
 unfold zc1;cases r <;> cases s <;> simp <;> omega
theorem zpq {n m:Nat}{r s:Bool}(h:m=n):zc1 n r m s=(r == s):=by
 unfold zc1;cases r <;> cases s <;> simp <;> omega
structure MrSt (w wx:zW)(p q x y:Pat)(vx vy:zV):Prop where
 low:zB w wx
 b2:zch wx w.heap.size vx x.kr
 b3:zch wx (w.heap.size+1) vy y.kr
 b4:zch wx (w.heap.size+1+1) (zL none 0 0) false
 px:zbx wx vx x
 py:zbx wx vy y
 ex:z8w x=0
 ey:z8w y=0
 le:y.kp.length<=x.kp.length
 st:∀(k:Nat) (hx:k<x.kp.length) (hy:k<y.kp.length),zbl x.kp[k] y.kp[k]=false->zbl y.kp[k] x.kp[k]=false
 is:zc6 p q=if zc1 x.kp.length x.kr y.kp.length y.kr=true then (zc3 x.kp y.kp).map (fun l=>⟨l,x.kr && y.kr⟩) else none
theorem MrSt.next {w wx wy:zW}{p q x y:Pat}{vx vy:zV}(h:MrSt w wx p q x y vx vy)(hb:zB wx wy):MrSt w wy p q x y vx vy:=
 ⟨h.low.trans (hb.mono h.low.size),h.b2.low hb,h.b3.low hb,h.b4.low hb,h.px.kw hb,h.py.kw hb,h.ex,h.ey,h.le,h.st,h.is⟩
structure zpr (w wr:zW)(g:Nat)(v:zV)(b:Bool)(l:List zA):Prop where
 low:zB w wr
 le:w.heap.size<=g
 box:zch wr g v b
 own:wr.ownsRow (g+1) 9 1 v l.length (l.map .string)
theorem zpr.ku {w wr wx:zW}{g:Nat}{v:zV}{b:Bool}{l:List zA}(h:zpr w wr g v b l)(hb:zB wr wx):zpr w wx g v b l:=⟨z0r h.low hb,h.le,h.box.low hb,z0n h.own hb⟩
theorem zpr.push {w wr w2:zW}{g:Nat}{v:zV}{b:Bool}{l:List zA}{x:zA}{A':zP}{c':Nat}(h:zpr w wr g v b l)
  (hown:w2.ownsRow (g+1) 9 1 (zL A' (l.length+1) c') (l.length+1) (l.map .string++[zS x])) (hgr:wr.grownBy w2 v.ownBlock)
  (hob:(zL A' (l.length+1) c').ownBlock=v.ownBlock\/(zL A' (l.length+1) c').ownBlock=some wr.heap.size):
  zpr w (w2.setCell ⟨g,0,none⟩ (zL A' (l.length+1) c')) g (zL A' (l.length+1) c') b (l++[x]):=by
 have hl:=Blk.lt h.box;have hb1:∀ k,v.ownBlock=some k->g<k:=fun k e=>by have:=(h.own.lt k e).1;omega
 have hbx:some g≠v.ownBlock:=fun e=>by have:=hb1 g e.symm;omega
 have hbel:zB w w2:=h.low.grown hgr h.low.size (fun k e=>by have:=hb1 k e;have:=h.le;omega)
 have hne:(zL A' (l.length+1) c').ownBlock≠some g:=by
  rcases hob with e | e
  ·rw[e];exact fun e=>hbx e.symm
  ·rw[e];intro e2;injection e2 with e2;omega
 refine⟨hbel.setCell (p:=⟨g,0,none⟩) h.le _,h.le,(Blk.grown h.box hgr hbx).set_ 0 _,?_⟩;rw[Zc,ZL,Zs];exact z5c hown (p:=⟨g,0,none⟩) hne _
theorem Row.empty {w w':zW}{size n:Nat}{v:zV}{xs:List zV}(h:Row w size v n xs)(hn:n=0):Row w' size v n xs:=by
 obtain⟨A,c,e,hc,hm,hl,h0,-⟩:=h;exact⟨A,c,e,hc,hm,hl,h0,fun h=>absurd h (by omega)⟩
theorem zdd.setB {w wr:zW}{g4 g11:Nat}{v:zV}{b b2:Bool}{l:List zA}(h:zdd w wr g4 g11 v b l):zdd w (wr.setCell ⟨g11,1,none⟩ (.bool b2)) g4 g11 v b2 l:=
 ⟨h.low.setCell (p:=⟨g11,1,none⟩) (by show w.heap.size<=g11;have:=h.le4;have:=h.le;omega) _,h.le4,h.le,Blk.far h.box4 (by show g11≠g4;have:=h.le;omega) _,Blk.set_ h.box 1 _,z5c h.own (p:=⟨g11,1,none⟩) h.ne _,h.ne4,h.ne⟩
def Out (L:List Pat)(i:Nat)(hi:i<L.length):Prop:=∃(j:Nat) (hj:j<L.length),i≠j/\Wi L[i] L[j]/\(j<i\/L[i]≠L[j])
open Classical in
noncomputable def upN:List Pat->Pat->Nat
 | [],_=>0
 | q :: L,p=>upN L p+(if Wi p q then 1 else 0)
theorem up_le {L:List Pat}{p q:Pat}(h:Wi p q):upN L q<=upN L p:=by
 induction L with
 | nil=>exact Zd _
 | cons a L ih =>
  show upN L q+_<=upN L p+_
  by_cases h1:Wi q a
  ·rw[if_pos h1,if_pos (zho h h1)];omega
  ·rw[if_neg h1];omega
theorem up_lt {L:List Pat}{p q:Pat}(h:Wi p q)(hne:p≠q)(hm:p∈L):upN L q<upN L p:=by
 induction L with
 | nil=>cases hm
 | cons a L ih =>
  have hle:=up_le (L:=L) h;show upN L q+_<upN L p+_
  by_cases e:p=a
  ·subst e;rw[if_pos (zhn p),if_neg (fun hc=>hne (wi_anti h hc))];omega
  ·have ih:=ih ((Zn.1 hm).resolve_left e);by_cases h1:Wi q a
   ·rw[if_pos h1,if_pos (zho h h1)];omega
   ·rw[if_neg h1];omega
theorem kept_of (L:List Pat):∀(N i:Nat) (hi:i<L.length),upN L L[i] * (L.length+1)+i<=N->∃(k:Nat) (hk:k<L.length),Wi L[i] L[k]/\¬ Out L k hk:=by
 intro N;induction N with
 | zero =>
  intro i hi hN;refine⟨i,hi,zhn _,?_⟩;rintro⟨j,hj,hne,hw,ho⟩;rcases ho with ho | ho
  ·omega
  ·have h1:=up_lt hw ho (Za hi);have:0<upN L L[i] * (L.length+1):=Nat.mul_pos (by omega) (by omega)
   omega
 | succ N ih =>
  intro i hi hN;by_cases h:Out L i hi
  ·obtain⟨j,hj,hne,hw,ho⟩:=h;have hlt:upN L L[j] * (L.length+1)+j<=N:=by
    by_cases e:L[i]=L[j]
    ·rcases ho with ho | ho
     ·rw[<- e];omega
     ·exact absurd e ho
    ·have h1:=up_lt hw e (Za hi);have h2:(upN L L[j]+1) * (L.length+1)<=upN L L[i] * (L.length+1):=Ye _ h1;rw[Nat.add_mul,Nat.one_mul] at h2;omega
   obtain⟨k,hk,h1,h2⟩:=ih j hj hlt;exact⟨k,hk,zho hw h1,h2⟩
  ·exact⟨i,hi,zhn _,h⟩
theorem zs9 {L K:List Pat}(h1:∀ k∈K,k∈L)(h2:∀ i (hi:i<L.length),¬ Out L i hi->L[i]∈K):∀ h∈L,∃ k∈K,Wi h k:=by
 intro h hm;obtain⟨i,hi,rfl⟩:=ZF hm;obtain⟨k,hk,a,b⟩:=kept_of L _ i hi (Zd _);exact⟨_,h2 k hk b,a⟩
