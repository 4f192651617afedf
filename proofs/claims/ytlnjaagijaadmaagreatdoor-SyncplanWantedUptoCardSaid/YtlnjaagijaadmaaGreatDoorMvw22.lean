/- A part. -/
import Derived.Test.YtlnjaagijaadmaaGreatDoorMvw19
import Derived.Test.YtlnjaagijaadmaaGreatDoorMvw21
set_option linter.unusedVariables false
set_option linter.unusedSimpArgs false
set_option maxHeartbeats 8000000
set_option maxRecDepth 100000
namespace Go.Proofs.YtlnjaagijaadmaaGreatDoor
open Go.Proofs.Tryz
open Go.RowKit
def zjj:List zA:=[⟨#[97]⟩,⟨#[98,98]⟩,⟨#[36,73,100,36]⟩,⟨#[36,73,100,58,32,120,36,99]⟩,⟨#[97,98]⟩,⟨#[97,98,99]⟩,⟨#[120,47,121]⟩,⟨#[36,80,97,116,104,36,32,36,73,100,36]⟩]
theorem zjk:∀ s∈zjj,s.size<=20:=by decide
structure zjl (w wr:zW)(U g m:Nat)(v:zV)(n:Nat):Prop where
 kept:z49 [g] w wr
 tape:z4d wr U g m
 own:zjd wr w.heap.size v n
 gU:g<w.heap.size
 UU:U<=w.heap.size
section
variable {w wr w' : zW} {U g m m' n : Nat} {v : zV}
theorem zjl.next (h:zjl w wr U g m v n)(hK:z49 [g] wr w')(hT:z4d w' U g m'):zjl w w' U g m' v n:=
 ⟨h.kept.trans hK,hT,h.own.keepAt fun x h1 h2 _=>hK.block x h2 (by have:=h.gU;rw[Zm];omega),h.gU,h.UU⟩
theorem zjl.ku (h:zjl w wr U g m v n)(hb:zB wr w'):zjl w w' U g m v n:=h.next (z49.kw hb) (h.tape.kw hb)
theorem zjl.push {v':zV}{n':Nat}(h:zjl w wr U g m v n)(ho:zjd w' w.heap.size v' n')(hg:wr.grownBy w' v.ownBlock):zjl w w' U g m v' n':=by
 have hlt:=h.own.lt;have hUU:=h.UU;exact⟨h.kept.grown_own hg (fun x e=>(hlt x e).1),h.tape.keep hg.size (fun x hx=>hg.block x (by have:=h.kept.size;omega) (fun e=>by have:=(hlt x e.symm).1;omega)),ho,h.gU,h.UU⟩
end
def WbPost (w:zW)(U g m:Nat)(e:Ending)(w':zW):Prop:=∃(v:zV) (n:Nat),e=.returned v/\n<=100/\zjd w' w.heap.size v n/\z4d w' U g m/\z49 [g] w w'
theorem zjm (U g m:Nat)(w:zW)(hT:z4d w U g m)(hU:U<=w.heap.size)(hm:m<=100000):
  Calls prog 134 #[.pointer (some ⟨g,0,none⟩)] w (WbPost w U g (m+5)):=by
 have hgl:g<w.heap.size:=by have:=hT.ltU;omega
 have hA:zB w (w.alloc (.cells (zjj.map Value.string).toArray 9)):=zR;have HB:Hid (Blk _ _ 9 (zjj.map Value.string)):=hd_ (z0l w _ _);have HN:=hd_ (z4e U g m 8 _ (hT.kw hA) (by omega) (by omega))
 have HA:=hd_ (z49.kw (S:=[g]) hA);have HG:Hid (g<w.heap.size/\U<=w.heap.size):=hd_ ⟨hgl,hU⟩;have hcv:=fun W s=>run_cvt (P:=prog) W 9 204 5 s underlying9 underlying204 underlying5;have HCV:=hd_ hcv;clear hT hU hA hgl hcv;go_enter func134,ntmps134;go_upto_region 2 with fail;change _ at HN;have e0:w.alloc (.cells (zjj.map Value.string).toArray 9)=w.alloc (zC #[zS ⟨#[97]⟩,zS ⟨#[98,98]⟩,zS ⟨#[36,73,100,36]⟩,zS ⟨#[36,73,100,58,32,120,36,99]⟩,zS ⟨#[97,98]⟩,zS ⟨#[97,98,99]⟩,zS ⟨#[120,47,121]⟩,zS ⟨#[36,80,97,116,104,36,32,36,73,100,36]⟩] 9):=rfl;rw[<- e0];clear e0;generalize w.alloc (.cells (zjj.map Value.string).toArray 9)=W1 at HB HN HA |-;go_wp2_with fail;refine HN.mono ?_;rintro e w2 ⟨k,rfl,hk,hT2,hK2⟩;dsimp only;obtain⟨j,rfl⟩:∃ j:Nat,k=j:=⟨k.toNat,by have:=hk.1;omega⟩
 have hj:j<8:=by have:=hk.2.1 (by omega);omega
 have s0:w2.cell? ⟨w.heap.size,j,none⟩=some (zS (zjj[j]'hj)):=((hK2.blk HB (by simp;have:=HG.out;omega)).cell j).trans (by rw[ZA,Ze (show j<zjj.length from hj)];rfl)
 have hz:(zjj[j]'hj).size<=20:=zjk _ (Za _);generalize zjj[j]'hj=s at s0 hz;have HS:Hid (zjl w (z21 w2 s 5) U g (m+1) (zL (some (cvtA w2)) s.size (z0c w2 s 5)) s.size):=hd_ (by
  have hb:=z0d w2 s 5;have hsz:=hK2.size;have hsz2:=HA.out.size;have ho:=zjh w2 s (by omega)
  refine⟨(HA.trans hK2).ku hb,hT2.kw hb,?_,HG.1,HG.2⟩;obtain⟨g',cap,cur,fz,e1,e2,e3⟩:=ho;exact⟨g',cap,cur,fz,e1,by omega,e3⟩)
 have hcv:=HCV.out;have hz8:(j:Int)<8:=by omega
 clear hk hT2 hK2 hj HB HN HA HCV;go_upto_region 3 with fail;generalize z21 w2 s 5=W3 at HS |-;generalize cvtA w2=A0 at HS |-;generalize z0c w2 s 5=c0 at HS |-;clear s0 hcv hz8;have HX:=hd_ (z4e U g (m+1) 4 W3 HS.tape (by omega) (by omega))
 go_wp2_with fail;refine HX.mono ?_;rintro e w4 ⟨k,rfl,hk,hT4,hK4⟩;dsimp only;obtain⟨j4,rfl⟩:∃ j:Nat,k=j:=⟨k.toNat,by have:=hk.1;omega⟩
 have hj4:j4<=3:=by have:=hk.2.1 (by omega);omega
 have HS4:=hd_ (HS.next hK4 hT4);clear hk hT4 hK4 HX HS;go_wp2_with fail;go_loopw [4,5] (fun v i wr=>∃(j n:Nat) (A:zP) (c:Nat),v=zL A n c/\i=zI j/\n+j<=23/\j<=3/\Hid (∃ m',m'+j<=m+5/\zjl w wr U g m' v n)) (fun _ i _=>(intOf i).toNat)
 exact⟨j4,s.size,some A0,c0,rfl,rfl,by omega,hj4,hd_ ⟨m+1+1,by omega,HS4⟩⟩
 obtain⟨j,n,A,c,rfl,rfl,hnj,hj3,HI⟩:=hrel;clear HS4;by_cases h1:0<j
 ·obtain⟨m',hm',hS⟩:=HI.out;have HS:=hd_ hS;have HM:=hd_ hm';have q1:decide ((0:Int)<(j:Int))=true:=by simp;omega
  have HX:=hd_ (z4e U g m' 3 wr hS.tape (by omega) (by omega))
  have HH:=hd_ (Zi h1 (Zi hnj hj3));clear hS hm' HI hnj hj3;go_wp2_with fail;refine HX.mono ?_;rintro e w5 ⟨k,rfl,hk,hT5,hK5⟩;dsimp only;have hk3:0<=k/\k<3:=⟨hk.1,hk.2.1 (by omega)⟩
  have q3:IntKind.i64.wrap (97+k)=97+k:=by rw[IntKind.wrap_i64];omega
  have q4:IntKind.u8.wrap (97+k)=97+k:=by simp [IntKind.wrap,IntKind.bits,IntKind.signed];omega
  have HS5:=hd_ ((HS.next hK5 hT5).ku ((Zb w5.heap.size w5).alloc (Zd _) (zC #[.int .u8 (97+k)] 5)));have HY:Hid ((w5.alloc (zC #[.int .u8 (97+k)] 5)).cell? ⟨w5.heap.size,0,none⟩=some (.int .u8 (97+k))):=hd_ ((z0l w5 [.int .u8 (97+k)] 5).cell 0);clear hk hT5 hK5 HX HS;go_wp2_with (at_builtin;refine zji rfl rfl HS5.own rfl rfl (k:=97+k) (by omega) HY (by have:=HH.out;omega) (by have:=HS5.out.kept.size;exact this) ?_;intro A' c' w6 ho hg)
  have HN:=hd_ (HS5.push ho hg);have q5:IntKind.i64.wrap ((j:Int) - 1)=((j - 1:Nat):Int):=by rw[IntKind.wrap_i64];have:=HH.out;omega
  have hj3:=HH.out.2.2;clear ho hg q3 q4;go_wp2_with fail;go_roundw
  exact⟨j - 1,n+1,A',c',rfl,by first | rfl | go_num | (have:=HH.out;refine congrArg _ ?_;unfold wrap64;omega),by have:=HH.out;omega,by have:=HH.out;omega,hd_ ⟨m'+1,by have:=HM.out;have:=HH.out;omega,HN⟩⟩
  have:=HH.out;simp [intOf,wrap64];omega
 ·have hj0:j=0:=by omega
  subst hj0;obtain⟨m',hm',hS⟩:=HI.out;have HF:Hid (WbPost w U g (m+5) (.returned (zL A n c)) wr):=hd_ ⟨_,n,rfl,by omega,hS.own,hS.tape.mono (by omega),hS.kept⟩
  clear hS hm' HI;go_wp2_with fail;go_ret;exact HF
structure Cnk where
 s:Int
 z:Int
 A:zP
 n:Nat
 c:Nat
def Cnk.cells (x:Cnk):List zV:=[.int .u64 x.s,zI x.z,zL x.A x.n x.c]
theorem cnkElem:z0e prog 45 210 3 40:=z0f underlying45 (z:=.agg #[.int .u64 0,zI 0,zL none 0 0]) (by kernel_rfl) rfl (by decide)
theorem eql_cid (a b c d:Int)(W:zW):(binOp .eql 76 (.agg #[.int .u64 a,zI b]) (.agg #[.int .u64 c,zI d])).run prog W=.ok (.bool (decide (a=c) && decide (b=d))) W:=by
 rw[run_eql_struct,run_equalIn_agg W 9999 76 _ _ (by kernel_rfl) (by kernel_rfl)]
 simp [go_sem,Op.eqFields]
 by_cases h1:a=c <;> by_cases h2:b=d <;> simp [h1,h2]
structure WsB (w wr:zW)(U g gw m:Nat)(D:List Rev)(dv dr cv:zV)(l:List Cnk):Prop where
 kept:z49 [g] w wr
 tape:z4d wr U g m
 box:Blk wr gw 47 [dv,dr,cv]
 cnk:wr.ownsRow (gw+1) 210 3 cv l.length (l.flatMap Cnk.cells)
 revs:z3w wr dv D
 gU:g<U
 UU:U<=w.heap.size
 le:w.heap.size<=gw
 far:∀ x,dv.ownBlock=some x->x≠gw/\x<wr.heap.size/\cv.ownBlock≠some x
theorem Row.heap {w w':zW}{size n:Nat}{v:zV}{xs:List zV}(h:Row w size v n xs)(hs:w.heap.size<=w'.heap.size)(hk:∀ x,x<w.heap.size->v.ownBlock=some x->w'.heap[x]? = w.heap[x]?):Row w' size v n xs:=by
 obtain⟨A,c,rfl,hc,hm,hl,h0,hr⟩:=h;refine⟨A,c,rfl,hc,hm,hl,h0,fun hn=>?_⟩;obtain⟨ad,rfl,hb,hcell⟩:=hr hn;refine⟨ad,rfl,by omega,fun j u hu=>?_⟩
 rw[<- hcell j u hu];refine World.cell?_of_block ?_;rw[z00];exact hk _ hb rfl
section
variable {w wr w' : zW} {U g gw m m' : Nat} {D : List Rev} {dv dr cv : zV} {l : List Cnk}
theorem WsB.next (h:WsB w wr U g gw m D dv dr cv l)(hK:z49 [g] wr w')(hT:z4d w' U g m'):WsB w w' U g gw m' D dv dr cv l:=by
 have h1:=h.gU;have h2:=h.UU;have h3:=h.le;refine⟨h.kept.trans hK,hT,hK.blk h.box (by simp;omega),ziq h.cnk hK (fun x hx=>by have:=(h.cnk.lt x hx).1;simp;omega),z3w.kn h.revs hK h.tape.nosb,h1,h2,h3,fun x hx=>⟨(h.far x hx).1,Zq (h.far x hx).2.1 hK.size,(h.far x hx).2.2⟩⟩
theorem WsB.ku (h:WsB w wr U g gw m D dv dr cv l)(hb:zB wr w'):WsB w w' U g gw m D dv dr cv l:=h.next (z49.kw hb) (h.tape.kw hb)
theorem WsB.turn {w5:zW}{cv':zV}{l':List Cnk}(h:WsB w wr U g gw m D dv dr cv l)(hg:wr.grownBy w5 cv.ownBlock)(ho:w5.ownsRow (gw+1) 210 3 cv' l'.length (l'.flatMap Cnk.cells))(hob:cv'.ownBlock=cv.ownBlock\/cv'.ownBlock=some wr.heap.size):
  WsB w (w5.setCell ⟨gw,2,none⟩ cv') U g gw m D dv dr cv' l':=by
 have h1:=h.gU;have h2:=h.UU;have h3:=h.le;have hbl:=h.box.lt;have hlt:=h.cnk.lt;have hne:some gw≠cv.ownBlock:=fun e=>by have:=(hlt gw e.symm).1;omega
 have hne':cv'.ownBlock≠some gw:=by
  rcases hob with e | e
  ·rw[e];exact fun e=>hne e.symm
  ·rw[e];intro e2;injection e2 with e2;omega
 have hk:z49 [g] w w5:=h.kept.grown_own hg (fun x e=>by have:=(hlt x e).1;omega)
 have hb5:Below w.heap.size w5 (w5.setCell ⟨gw,2,none⟩ cv'):=(Zb _ _).setCell (p:=⟨gw,2,none⟩) h3 _;have ht5:z4d w5 U g m:=h.tape.keep hg.size (fun x hx=>hg.block x (by have:=h.kept.size;omega) (fun e=>by have:=(hlt x e.symm).1;omega))
 refine⟨hk.onto hb5,ht5.onto h2 hb5,(h.box.grown hg hne).set_ 2 cv',z5c ho (p:=⟨gw,2,none⟩) hne' _,?_,h1,h2,h3,fun x hx=>⟨(h.far x hx).1,Zq (h.far x hx).2.1 (Zf hg.size hb5.size),?_⟩⟩
 ·have hr5:z3w w5 dv D:=Row.heap h.revs hg.size (fun x hx e=>hg.block x hx (fun e2=>(h.far x e).2.2 e2.symm));exact Row.set_far hr5 (fun e=>(h.far gw e).1 rfl)
 ·rcases hob with e | e
  ·rw[e];exact (h.far x hx).2.2
  ·rw[e];intro e2;injection e2 with e2;have:=(h.far x hx).2.1;omega
def FdPost (w:zW)(e:Ending)(w':zW):Prop:=(∃(A:zP) (n c:Nat) (b:Bool),e=.returned (.tuple #[zL A n c,.bool b]))/\zB w w'
theorem Cnk.at_ {w:zW}{B:Nat}{A:zP}{c:Nat}{l:List Cnk}(h:w.ownsRow B 210 3 (zL A l.length c) l.length (l.flatMap Cnk.cells)){k:Nat}(hk:k<l.length):
  ∃ ad,A=some ad/\w.cell? (ad.add (k * 3))=some (.int .u64 l[k].s)/\w.cell? ⟨(ad.add (k * 3)).block,(ad.add (k * 3)).off+1,none⟩=some (zI l[k].z)/\w.cell? ⟨(ad.add (k * 3)).block,(ad.add (k * 3)).off+2,none⟩=some (.slice l[k].A l[k].n l[k].c):=by
 obtain⟨ad,e,hb,hc⟩:=z3z (f:=Cnk.cells) (n:=3) (fun _=>rfl) (Row.of_own h) hk;exact⟨ad,e,hc 0 _ rfl,hc 1 _ rfl,hc 2 _ rfl⟩
theorem zk8 (h:WsB w wr U g gw m D dv dr cv l)(s z:Int)(hl:l.length<=1000000):
  Calls prog 136 #[.pointer (some ⟨gw,0,none⟩),.agg #[.int .u64 s,zI z]] wr (FdPost wr):=by
 obtain⟨A,c,rfl⟩:=z0o h.cnk;have hA:zB wr (wr.alloc (zC #[.int .u64 s,zI z] 76)):=zR;have HX:=hd_ (z0l wr [.int .u64 s,zI z] 76);have HB:=hd_ h.box;have HC:=hd_ h.cnk;have HA:=hd_ hA;clear h hA;go_enter func136,ntmps136;go_upto_region 1 with fail;generalize wr.alloc (zC #[.int .u64 s,zI z] 76)=W1 at HX HA |-;generalize wr.heap.size=g3 at HX |-;go_wp2_with fail;go_loopw [6] (fun i wx=>∃ k:Nat,i=zI k/\k<=l.length/\Hid (zB W1 wx)) (fun i _=>l.length - (intOf i).toNat)
 exact⟨0,rfl,Zg _,hd_ (Zb _ _)⟩
 obtain⟨k,rfl,hk,HI⟩:=hrel;have HBX:=hd_ (z0r HA HI);have hb2:=(HB.out.kw HBX.out HB.out.lt).cell 2;have b2:wr.cell? ⟨gw,2,none⟩=some (.slice A l.length c):=hb2;clear hb2;by_cases hlt:k<l.length
 ·obtain⟨ad,rfl,c0,c1,c2⟩:=Cnk.at_ (z0n HC.out HBX.out) hlt;have hX:=HX.out.kw HI.out HX.out.lt;have x0:wr.cell? ⟨g3,0,none⟩=some (.int .u64 s):=hX.cell 0;have x1:wr.cell? ⟨g3,1,none⟩=some (zI z):=hX.cell 1;generalize l[k]=y at c0 c1 c2;obtain⟨s',z',A',n',c'⟩:=y;dsimp only at c0 c1 c2
  have heq:=eql_cid s' z' s z;generalize (decide (s'=s) && decide (z'=z))=b at heq;have hzk:(k:Int)<(l.length:Int):=by omega
  have HLT:=hd_ hlt;clear hX hlt;go_upto_region 4 with fail;go_quiet (fail)
  clear heq;cases b with
  | true =>
   go_wp2_with fail;go_ret2;exact⟨⟨_,_,_,_,rfl⟩,z0p HBX _⟩
  | false =>
   go_wp2_with fail;go_roundw
   exact⟨k+1,by go_num,by have:=HLT.out;omega,hd_ (z0p HI _)⟩
   have:=HLT.out;simp [intOf];omega
 ·have hke:k=l.length:=by omega
  subst hke;have hge:¬((l.length:Int)<(l.length:Int)):=by omega
  go_wp2_with fail;go_ret2;exact⟨⟨none,0,0,false,rfl⟩,HBX⟩
end
structure Frm (wr w':zW)(g gw:Nat)(cv cv':zV):Prop where
 os:w'.os=wr.os
 tape:w'.tape=wr.tape
 output:w'.output=wr.output
 size:wr.heap.size<=w'.heap.size
 block:∀ k,k<wr.heap.size->k≠g->k≠gw->cv.ownBlock≠some k->w'.heap[k]? = wr.heap[k]?
 ob:cv'.ownBlock=cv.ownBlock\/∀ x,cv'.ownBlock=some x->wr.heap.size<=x
theorem Frm.of_kept {wr w':zW}{g gw:Nat}{cv:zV}(h:z49 [g] wr w'):Frm wr w' g gw cv cv:=⟨h.os,h.tape,h.output,h.size,fun k hk h1 _ _=>h.block k hk (by simpa using h1),.inl rfl⟩
theorem Frm.trans {w1 w2 w3:zW}{g gw:Nat}{a b c:zV}(h:Frm w1 w2 g gw a b)(h2:Frm w2 w3 g gw b c):Frm w1 w3 g gw a c:=by
 refine⟨h2.os.trans h.os,h2.tape.trans h.tape,h2.output.trans h.output,Zf h.size h2.size,fun k hk h3 h4 h5=>(h2.block k (Zq hk h.size) h3 h4 ?_).trans (h.block k hk h3 h4 h5),?_⟩
 ·rcases h.ob with e | e
  ·rw[e];exact h5
  ·intro e2;have:=e k e2;omega
 ·rcases h2.ob with e | e
  ·rcases h.ob with e' | e'
   ·exact .inl (e.trans e')
   ·exact .inr fun x hx=>e' x (by rw[<- e];exact hx)
  ·exact .inr fun x hx=>Zf h.size (e x hx)
theorem Frm.blk {wr w':zW}{g gw k:Nat}{cv cv':zV}{e:TypeId}{cs:List zV}(h:Frm wr w' g gw cv cv')(hB:Blk wr k e cs)(h1:k≠g)(h2:k≠gw)(h3:cv.ownBlock≠some k):Blk w' k e cs:=(h.block k hB.lt h1 h2 h3).trans hB
theorem WsB.set_at {w wr:zW}{U g gw m k i:Nat}{D:List Rev}{dv dr cv u:zV}{l:List Cnk}(h:WsB w wr U g gw m D dv dr cv l)(h1:w.heap.size<=k)(h2:k≠gw)(h3:cv.ownBlock≠some k)(h4:dv.ownBlock≠some k):WsB w (wr.setCell ⟨k,i,none⟩ u) U g gw m D dv dr cv l:=by
 have hb:Below w.heap.size wr (wr.setCell ⟨k,i,none⟩ u):=(Zb _ _).setCell (p:=⟨k,i,none⟩) h1 u;exact⟨h.kept.onto hb,h.tape.onto h.UU hb,h.box.far (p:=⟨k,i,none⟩) h2 u,z5c h.cnk (p:=⟨k,i,none⟩) h3 u,Row.set_far h.revs h4,h.gU,h.UU,h.le,fun x hx=>⟨(h.far x hx).1,Zq (h.far x hx).2.1 hb.size,(h.far x hx).2.2⟩⟩
def WcPost (w wr:zW)(U g gw m:Nat)(D:List Rev)(dv dr cv:zV)(n:Nat)(e:Ending)(w':zW):Prop:=∃(s z:Nat) (cv':zV) (l':List Cnk),e=.returned (.agg #[.int .u64 s,zI z])/\WsB w w' U g gw m D dv dr cv' l'/\l'.length<=n+1/\Frm wr w' g gw cv cv'
theorem zkz {w wr:zW}{U g gw m:Nat}{D:List Rev}{dv dr cv:zV}{l:List Cnk}(h:WsB w wr U g gw m D dv dr cv l)(hl:l.length<=100000)(hm:m<=90000):
  Calls prog 81 #[.pointer (some ⟨gw,0,none⟩),.pointer (some ⟨g,0,none⟩)] wr (WcPost w wr U g gw (m+5) D dv dr cv l.length):=by
 have hA:zB wr (wr.alloc (zC #[.int .u64 0,zI 0] 76)):=zR;have hX:Blk _ _ 76 [.int .u64 0,zI 0]:=z0l wr _ _;have hg:=h.gU;have hUU:=h.UU;have hle:=h.le;have hbl:=h.box.lt;have HO:Hid (g<wr.heap.size/\gw<wr.heap.size/\(∀ x,cv.ownBlock=some x->x<wr.heap.size)/\U<=wr.heap.size):=hd_ ⟨by omega,hbl,fun x hx=>(h.cnk.lt x hx).2,by omega⟩
 have HDV:Hid (w.heap.size<=wr.heap.size/\∀ x,dv.ownBlock=some x->x<wr.heap.size):=hd_ ⟨h.kept.size,fun x hx=>(h.far x hx).2.1⟩;have HS:=hd_ (h.ku hA);have HF:=hd_ (Frm.of_kept (gw:=gw) (cv:=cv) (z49.kw (S:=[g]) hA));have HX:=hd_ hX;have HY:=hd_ (zjm U g m _ (HS.tape) (by have:=hA.size;omega) (by omega))
 clear h hA hX hg hUU hle hbl;go_enter func81,ntmps81;go_upto_region 1 with fail;generalize wr.alloc (zC #[.int .u64 0,zI 0] 76)=W1 at HS HF HX HY |-;have HG4:=hd_ (rfl:wr.heap.size=wr.heap.size);generalize hg4:wr.heap.size=g4 at HX HO HDV HG4 |-;go_wp2_with fail;refine HY.mono ?_;rintro e w2 ⟨v5,n,rfl,hn,hM,hT2,hK2⟩;dsimp only;have HS2:=hd_ (HS.next hK2 hT2);have HF2:=hd_ (HF.trans (Frm.of_kept hK2));have HX2:=hd_ (hK2.blk HX (by have:=HO.out.1;simp;omega))
 obtain⟨bs,hbs,hB⟩:=hM.row;obtain⟨A5,c5,rfl⟩:∃ A c,v5=zL A n c:=by obtain⟨g',cap,cur,fz,e1,-⟩:=hM;exact⟨_,_,e1⟩
 have HOF:=hd_ (rOf_any bs _ w2 hB);rw[hbs] at HOF;clear hM hT2 hK2 hbs hB HY HS HF HX;go_wp2_with fail;refine HOF.mono ?_;rintro e w3 ⟨⟨r,rfl⟩,hb3⟩;dsimp only;have hb4:=z0r hb3 ((Zb w3.heap.size w3).alloc (Zd _) (zC #[.int .u64 r,zI n] 76));have HS4:=hd_ (HS2.ku hb4);have HF4:=hd_ (HF2.trans (Frm.of_kept (z49.kw hb4)));have HX4:=hd_ (HX2.kw hb4 HX2.lt);have HI4:Hid (Blk _ _ 76 [.int .u64 r,zI n]):=hd_ (z0l w3 _ _);have HO4:Hid (g4≠w3.heap.size/\g4<w3.heap.size):=hd_ (by have h1:=HX2.out.lt;have h2:=hb3.size;omega)
 clear hb3 hb4 HS2 HF2 HX2 HOF;go_upto_region 3 with fail;generalize w3.alloc (zC #[.int .u64 r,zI n] 76)=W4 at HS4 HF4 HX4 HI4 |-;generalize w3.heap.size=g6 at HI4 HO4 |-;have x0:W4.cell? ⟨g6,0,none⟩=some (.int .u64 r):=HI4.cell 0;have x1:W4.cell? ⟨g6,1,none⟩=some (zI n):=HI4.cell 1;have HFI:=hd_ (zk8 HS4 r n (by omega))
 go_wp2_with fail;refine HFI.mono ?_;rintro e w5 ⟨⟨A6,n6,c6,b,rfl⟩,hb5⟩;dsimp only;have HS5:=hd_ (HS4.ku hb5);have HF5:=hd_ (HF4.trans (Frm.of_kept (z49.kw hb5)));have HX5:=hd_ (HX4.kw hb5 HX4.lt);have HI5:=hd_ (HI4.kw hb5 HI4.lt);clear hb5 x0 x1 HFI HS4 HF4 HX4 HI4;go_upto_if 20 with fail
 go_cut [] (fun wx=>Hid (∃ cv' l',WsB w wx U g gw (m+5) D dv dr cv' l'/\l'.length<=l.length+1/\Frm wr wx g gw cv cv'/\Blk wx g4 76 [.int .u64 0,zI 0]/\Blk wx g6 76 [.int .u64 r,zI n]))
 case first =>
  cases b with
  | true =>
   go_wp2_with fail;go_meet
   exact hd_ ⟨cv,l,HS5,by omega,HF5,HX5,HI5⟩
  | false =>
   obtain⟨Ac,cc,rfl⟩:=z0o HS5.out.cnk;have HEND:Hid (∀ Y W A' c',zB w5 Y->Y.grownBy W (zL Ac l.length cc).ownBlock->W.ownsRow (gw+1) 210 3 (zL A' (l.length+1) c') (l.length+1) (l.flatMap Cnk.cells++[.int .u64 r,zI n,zL A5 n c5])->((zL A' (l.length+1) c').ownBlock=(zL Ac l.length cc).ownBlock\/(zL A' (l.length+1) c').ownBlock=some Y.heap.size) ->
     (W.cell? ⟨gw,2,none⟩=some (.slice Ac l.length cc)/\W.frozen? ⟨gw,2,none⟩=false)/\Hid (∃ cv' l',WsB w (W.setCell ⟨gw,2,none⟩ (zL A' (l.length+1) c')) U g gw (m+5) D dv dr cv' l'/\l'.length<=l.length+1/\Frm wr (W.setCell ⟨gw,2,none⟩ (zL A' (l.length+1) c')) g gw (zL Ac l.length cc) cv'/\Blk (W.setCell ⟨gw,2,none⟩ (zL A' (l.length+1) c')) g4 76 [.int .u64 0,zI 0]/\Blk (W.setCell ⟨gw,2,none⟩ (zL A' (l.length+1) c')) g6 76 [.int .u64 r,zI n])):=hd_ fun Y W A' c' hY hG hOw hob=>by
    have hSY:=HS5.out.ku hY;have hne:some gw≠(zL Ac l.length cc).ownBlock:=fun e=>by have:=(HS5.out.cnk.lt gw e.symm).1;omega
    have hbx:=hSY.box.grown hG hne;have hn4:some g4≠(zL Ac l.length cc).ownBlock:=fun e=>by have:=HO.out.2.2.1 g4 e.symm;omega
    have hn6:some g6≠(zL Ac l.length cc).ownBlock:=fun e=>by have:=HO.out.2.2.1 g6 e.symm;have:=HO4.out.2;omega
    have hgw4:gw≠g4:=by have:=HO.out.2.1;omega
    have hgw6:gw≠g6:=by have:=HO.out.2.1;have:=HO4.out.2;omega
    refine⟨⟨hbx.cell 2,hbx.frozen 2⟩,hd_ ⟨_,l++[⟨r,n,A5,n,c5⟩],hSY.turn hG (by rw[Zc,ZI];exact hOw) hob,by rw[Zc];exact Zd _,⟨?_,?_,?_,?_,fun k hk h1 h2 h3=>?_,?_⟩,Blk.far ((HX5.kw hY HX5.lt).grown hG hn4) hgw4 _,Blk.far ((HI5.kw hY HI5.lt).grown hG hn6) hgw6 _⟩⟩
    ·exact (hG.os.trans hY.os).trans HF5.os
    ·exact (hG.tape.trans hY.tape).trans HF5.tape
    ·exact (hG.output.trans hY.output).trans HF5.output
    ·have h1:=HF5.out.size;have h2:=hY.size;have h3:=hG.size;have h4:=(z4a W gw 2 (zL A' (l.length+1) c')).size;omega
    ·have h4:=(z4a W gw 2 (zL A' (l.length+1) c')).block k (by have:=hG.size;have:=hY.size;have:=HF5.out.size;omega) (by intro e;injection e with e;exact h2 e)
     have h5:=hG.block k (by have:=hY.size;have:=HF5.out.size;omega) (fun e=>h3 e.symm)
     exact h4.trans (h5.trans ((hY.block k (by have:=HF5.out.size;omega)).trans (HF5.block k (by omega) h1 h2 h3)))
    ·rcases hob with e | e
     ·exact .inl e
     ·refine .inr fun x hx=>?_;rw[e] at hx;injection hx with hx
      have:=HF5.out.size;have:=hY.size;omega
   have hdr:zB w5 w5.drew:=(Zb _ _).drew;have hda:zB w5 (w5.alloc (zC #[.int .u64 r,zI n,zL A5 n c5] 210)).drew:=(z0t (Zb _ _) _).drew;have HL:Hid (∀ Y,zB w5 Y->Y.cell? ⟨gw,2,none⟩=some (.slice Ac l.length cc)/\Y.cell? ⟨g6,0,none⟩=some (.int .u64 r)/\Y.cell? ⟨g6,1,none⟩=some (zI n)):=hd_ fun Y hY=>⟨(HS5.box.kw hY HS5.box.lt).cell 2,(HI5.kw hY HI5.lt).cell 0,(HI5.kw hY HI5.lt).cell 1⟩;have HOW:Hid (∀ Y,zB w5 Y->Y.ownsRow (gw+1) 210 3 (zL Ac l.length cc) l.length (l.flatMap Cnk.cells)):=hd_ fun Y hY=>z0n HS5.cnk hY;have HDA:=hd_ hda;have HSZ:Hid (gw+1<=(w5.alloc (zC #[.int .u64 r,zI n,zL A5 n c5] 210)).drew.heap.size):=hd_ (by have:=HS5.out.box.lt;have:=hda.size;omega)
   obtain⟨b0,x0,x1⟩:=HL.out w5 (Zb _ _);obtain⟨b1,x2,x3⟩:=HL.out _ hdr;obtain⟨b2,x4,x5⟩:=HL.out _ hda;have hl2:l.length<=100000:=hl;go_upto_region 5 with fail;clear hdr hda;refine wp_region_noPanic ?_;go_region_law (first
    | (refine step_app (base:=gw+1) rfl rfl cnkElem (HOW _ HDA) (by simp [Act.eval,Act.put];done) (Row.drew (z0i w5 [.int .u64 r,zI n,zL A5 n c5] _ 3 1 rfl (by decide) _ rfl)) (by simp [Act.eval,Act.put];done) (by simp [Value.oneCell']) (by omega) (by unfold maxLen;omega) HSZ ?_;intro A' c' w6 hO6 hG6 hw6;obtain⟨⟨k1,k2⟩,hfin⟩:=HEND.out _ _ _ _ HDA.out hG6 hO6 hw6))
   all_goals
    refine NoPanic.normal ?_;go_wp2_with fail;go_meet
    exact hfin
 case rest =>
  obtain⟨cv',l',hS,hll,hF,hX,hI⟩:=hcut.out;have HE:=hd_ (Zi hS (Zi hll hF));obtain⟨x0,x1⟩:=(⟨hI.cell 0,hI.cell 1⟩:wc.cell? ⟨g6,0,none⟩=some (.int .u64 r)/\wc.cell? ⟨g6,1,none⟩=some (zI n));obtain⟨y0,y1⟩:=(⟨hX.cell 0,hX.cell 1⟩:wc.cell? ⟨g4,0,none⟩=some (.int .u64 0)/\wc.cell? ⟨g4,1,none⟩=some (zI 0));obtain⟨f0,f1⟩:=(⟨hX.frozen 0,hX.frozen 1⟩:wc.frozen? ⟨g4,0,none⟩=false/\wc.frozen? ⟨g4,1,none⟩=false);have HX:=hd_ hX;have HNB:Hid (cv'.ownBlock≠some g4):=hd_ (zky hS.cnk hX (by decide))
  clear hcut hS hll hF hX hI HS5 HF5 HX5 HI5;go_wp2_with fail;have hd4:dv.ownBlock≠some g4:=fun e=>by have:=HDV.out.2 g4 e;omega
  have hw4:w.heap.size<=g4:=HDV.out.1;have hn4:g4≠gw:=by have:=HO.out.2.1;omega
  have hE:=(HX.out.set_ 0 (.int .u64 (r:Int))).set_ 1 (zI (n:Int));have hS8:=(HE.out.1.set_at (k:=g4) (i:=0) (u:=.int .u64 (r:Int)) hw4 hn4 HNB.out hd4).set_at (k:=g4) (i:=1) (u:=zI (n:Int)) hw4 hn4 HNB.out hd4;have hg1:=z4a wc g4 0 (.int .u64 (r:Int));have hg2:=z4a (wc.setCell ⟨g4,0,none⟩ (.int .u64 (r:Int))) g4 1 (zI (n:Int));have hF8:Frm wr ((wc.setCell ⟨g4,0,none⟩ (.int .u64 (r:Int))).setCell ⟨g4,1,none⟩ (zI (n:Int))) g gw cv cv':=by
   have hF:=HE.out.2.2;refine⟨(hg2.os.trans hg1.os).trans hF.os,(hg2.tape.trans hg1.tape).trans hF.tape,(hg2.output.trans hg1.output).trans hF.output,Zf hF.size (Zf hg1.size hg2.size),fun k hk h1 h2 h3=>?_,hF.ob⟩;have hk4:k≠g4:=by omega
   have hsz:=hF.size;exact (hg2.block k (by have:=hg1.size;omega) (by intro e;injection e with e;exact hk4 e)).trans ((hg1.block k (by omega) (by intro e;injection e with e;exact hk4 e)).trans (hF.block k hk h1 h2 h3))
  clear hg1 hg2;generalize (wc.setCell ⟨g4,0,none⟩ (.int .u64 (r:Int))).setCell ⟨g4,1,none⟩ (zI (n:Int))=W8 at hE hS8 hF8 |-;have e0:=hE.cell 0;have e1:=hE.cell 1;exact bodyPost_ret (v:=.agg #[.int .u64 (r:Int),zI (n:Int)]) (by simp [results,results81,go_sem,e0,e1]) rfl ⟨r,n,cv',l',rfl,hS8,HE.2.1,hF8⟩
theorem WsB.mono {w wr:zW}{U g gw m m':Nat}{D:List Rev}{dv dr cv:zV}{l:List Cnk}(h:WsB w wr U g gw m D dv dr cv l)(hm:m<=m'):WsB w wr U g gw m' D dv dr cv l:=
 ⟨h.kept,h.tape.mono hm,h.box,h.cnk,h.revs,h.gU,h.UU,h.le,h.far⟩
structure EdK (D:List Rev)(i:Nat)(es:List Edt):Prop where
 six:∀ x∈es,∃(j:Nat) (hj:j<z8e.length),j<i/\z8e[j]=x.kt
 nd:(es.map (·.kt)).Nodup
 base:∀ x∈es,x.base=(zf8 (zfc D x.kt)).num
 len:es.length<=i
theorem zl0:z8e.Nodup:=by decide
theorem edK_0 (D:List Rev):EdK D 0 []:=⟨(fun x h=>by cases h),List.nodup_nil,(fun x h=>by cases h),Zd _⟩
theorem EdK.skip {D:List Rev}{i:Nat}{es:List Edt}(h:EdK D i es):EdK D (i+1) es:=
 ⟨fun x hx=>by obtain⟨j,hj,h1,h2⟩:=h.six x hx;exact⟨j,hj,by omega,h2⟩,h.nd,h.base,Nat.le_succ_of_le h.len⟩
theorem EdK.push {D:List Rev}{i:Nat}{es:List Edt}{x:Edt}(h:EdK D i es)(hi:i<z8e.length)(hx:x.kt=z8e[i])(hb:x.base=(zf8 (zfc D x.kt)).num):EdK D (i+1) (es++[x]):=by
 refine⟨fun y hy=>?_,?_,fun y hy=>?_,by rw[Zc];exact Nat.succ_le_succ h.len⟩
 ·rcases Zy.1 hy with hy | hy
  ·obtain⟨j,hj,h1,h2⟩:=h.six y hy;exact⟨j,hj,by omega,h2⟩
  ·rw[Zm] at hy;subst hy;exact⟨i,hi,by omega,hx.symm⟩
 ·rw[Zs,List.nodup_append];refine⟨h.nd,by simp,fun a ha b hb e=>?_⟩
  obtain⟨y,hy,rfl⟩:=ZD.1 ha;have hb':b=x.kt:=by simpa using hb
  obtain⟨j,hj,h1,h2⟩:=h.six y hy;have e2:z8e[j]=z8e[i]:=by rw[h2,e,hb',hx]
  have:=(List.getElem_inj zl0).1 e2;omega
 ·rcases Zy.1 hy with hy | hy
  ·exact h.base y hy
  ·rw[Zm] at hy;subst hy;exact hb
structure zl1 (w wr wx:zW)(U g gw m:Nat)(D:List Rev)(dv dr cv0 cv:zV)(l:List Cnk)(g6 g7 gp B:Nat)(num:Int)(es:List Edt)(ev:zV):Prop where
 ws:WsB w wx U g gw m D dv dr cv l
 frm:Frm wr wx g gw cv0 cv
 b6:Blk wx g6 93 [zI 0,zS ⟨#[]⟩,zS ⟨#[]⟩,zL none 0 0,zL none 0 0]
 b7:Blk wx g7 93 [zI num,zS ⟨#[]⟩,zS ⟨#[]⟩,ev,zL none 0 0]
 bp:Blk wx gp 9 (z8e.map .string)
 own:wx.ownsRow B 88 12 ev es.length (es.flatMap Edt.cells)
 ord:wr.heap.size<=g6/\g6<g7/\g7<gp/\gp<B/\B<=wx.heap.size
 lo:w.heap.size<=wr.heap.size/\gw<wr.heap.size/\∀ x,dv.ownBlock=some x->x<wr.heap.size
theorem zl2 {w w':zW}{B k n:Nat}{e:TypeId}{v:zV}{xs:List zV}(h:w.ownsRow B e k v n xs)(hk:∀ x,v.ownBlock=some x->w'.heap[x]? = w.heap[x]?):w'.ownsRow B e k v n xs:=by
 refine⟨h.1,?_⟩;rcases h.2 with e1 | ⟨g,cap,cur,e1,h1,h2,h3⟩
 ·exact .inl e1
 ·exact .inr ⟨g,cap,cur,e1,h1,(hk g (by rw[e1];rfl)).trans h2,h3⟩
theorem WsB.kg {w wr w':zW}{U g gw m:Nat}{D:List Rev}{dv dr cv:zV}{l:List Cnk}{row:Option Nat}(h:WsB w wr U g gw m D dv dr cv l)(hg:wr.grownBy w' row)(hr:∀ k,row=some k->w.heap.size<=k/\k≠gw/\cv.ownBlock≠some k/\dv.ownBlock≠some k):WsB w w' U g gw m D dv dr cv l:=by
 have hK:z49 [g] w w':=h.kept.grown_own hg (fun k e=>(hr k e).1);have h1:=h.UU;refine⟨hK,h.tape.keep hg.size (fun x hx=>hg.block x (by have:=h.kept.size;omega) (fun e=>by have:=(hr x e.symm).1;omega)),h.box.grown hg (fun e=>(hr gw e.symm).2.1 rfl),zl2 h.cnk (fun x hx=>hg.block x (h.cnk.lt x hx).2 (fun e=>(hr x e.symm).2.2.1 hx)),Row.heap h.revs hg.size (fun x hx e=>hg.block x hx (fun e2=>(hr x e2.symm).2.2.2 e)),h.gU,h1,h.le,fun x hx=>⟨(h.far x hx).1,Zq (h.far x hx).2.1 hg.size,(h.far x hx).2.2⟩⟩
theorem Frm.kg {wr wx w':zW}{g gw:Nat}{cv cv':zV}{row:Option Nat}(h:Frm wr wx g gw cv cv')(hg:wx.grownBy w' row)(hr:∀ k,row=some k->wr.heap.size<=k):Frm wr w' g gw cv cv':=
 ⟨hg.os.trans h.os,hg.tape.trans h.tape,hg.output.trans h.output,Zf h.size hg.size,fun k hk h1 h2 h3=>(hg.block k (Zq hk h.size) (fun e=>by have:=hr k e.symm;omega)).trans (h.block k hk h1 h2 h3),h.ob⟩
theorem zl3 {w:zW}{B1 B2 k1 k2 n1 n2 x:Nat}{e1 e2:TypeId}{v1 v2:zV}{xs ys:List zV}(h1:w.ownsRow B1 e1 k1 v1 n1 xs)(h2:w.ownsRow B2 e2 k2 v2 n2 ys)(he:e1≠e2)(hx:v1.ownBlock=some x):v2.ownBlock≠some x:=by
 intro hy;rcases h1.2 with⟨rfl,_⟩ | ⟨g,cap,cur,rfl,_,hg,_⟩
 ·cases hx
 ·rcases h2.2 with⟨rfl,_⟩ | ⟨g',cap',cur',rfl,_,hg',_⟩
  ·cases hy
  ·injection hx with hx
   injection hy with hy
   have e:g=g':=hx.trans hy.symm;subst e;rw[hg] at hg';injection hg' with hg'
   injection hg' with _ h2 _
   exact he h2
section
variable {w wr wx w' : zW} {U g gw m m' g6 g7 gp B : Nat} {D : List Rev} {dv dr cv0 cv cv' ev : zV} {l l' : List Cnk} {num : Int} {es : List Edt}
theorem zl1.step (h:zl1 w wr wx U g gw m D dv dr cv0 cv l g6 g7 gp B num es ev)(hF:Frm wx w' g gw cv cv')(hS:WsB w w' U g gw m' D dv dr cv' l'):zl1 w wr w' U g gw m' D dv dr cv0 cv' l' g6 g7 gp B num es ev:=by
 obtain⟨o1,o2,o3,o4,o5⟩:=h.ord;have h1:=h.ws.gU;have h2:=h.ws.UU;have h3:=h.ws.le;have h4:=h.ws.kept.size;have h5:=h.frm.size;have h6:=h.lo;refine⟨hS,h.frm.trans hF,hF.blk h.b6 (by omega) (by omega) (zky h.ws.cnk h.b6 (by decide)),hF.blk h.b7 (by omega) (by omega) (zky h.ws.cnk h.b7 (by decide)),hF.blk h.bp (by omega) (by omega) (zky h.ws.cnk h.bp (by decide)),?_,⟨o1,o2,o3,o4,Zf o5 hF.size⟩,h.lo⟩
 refine zl2 h.own fun x hx=>?_;have hlt:=h.own.lt x hx;exact hF.block x hlt.2 (by omega) (by omega) (zl3 h.own h.ws.cnk (by decide) hx)
theorem zl1.next (h:zl1 w wr wx U g gw m D dv dr cv0 cv l g6 g7 gp B num es ev)(hK:z49 [g] wx w')(hT:z4d w' U g m'):zl1 w wr w' U g gw m' D dv dr cv0 cv l g6 g7 gp B num es ev:=h.step (Frm.of_kept hK) (h.ws.next hK hT)
theorem zl1.ku (h:zl1 w wr wx U g gw m D dv dr cv0 cv l g6 g7 gp B num es ev)(hb:zB wx w'):zl1 w wr w' U g gw m D dv dr cv0 cv l g6 g7 gp B num es ev:=h.next (z49.kw hb) (h.ws.tape.kw hb)
theorem zl1.kg {row:Option Nat}(h:zl1 w wr wx U g gw m D dv dr cv0 cv l g6 g7 gp B num es ev)(hg:wx.grownBy w' row)(hr:∀ k,row=some k->B<=k/\cv.ownBlock≠some k/\ev.ownBlock≠some k):zl1 w wr w' U g gw m D dv dr cv0 cv l g6 g7 gp B num es ev:=by
 obtain⟨o1,o2,o3,o4,o5⟩:=h.ord;obtain⟨l1,l2,l3⟩:=h.lo;have hn:∀ k,k<B->some k≠row:=fun k hk e=>by have:=(hr k e.symm).1;omega
 exact⟨h.ws.kg hg (fun k e=>⟨by have:=(hr k e).1;omega,by have:=(hr k e).1;omega,(hr k e).2.1,fun e2=>by have:=l3 k e2;have:=(hr k e).1;omega⟩),h.frm.kg hg (fun k e=>by have:=(hr k e).1;omega),h.b6.grown hg (hn g6 (by omega)),h.b7.grown hg (hn g7 (by omega)),h.bp.grown hg (hn gp (by omega)),zl2 h.own (fun x hx=>hg.block x (h.own.lt x hx).2 (fun e=>(hr x e.symm).2.2 hx)),⟨o1,o2,o3,o4,Zf o5 hg.size⟩,h.lo⟩
theorem zl1.push {w5:zW}{ev':zV}{es':List Edt}(h:zl1 w wr wx U g gw m D dv dr cv0 cv l g6 g7 gp B num es ev)(hg:wx.grownBy w5 ev.ownBlock)(ho:w5.ownsRow B 88 12 ev' es'.length (es'.flatMap Edt.cells)):
  (w5.cell? ⟨g7,3,none⟩=some ev/\w5.frozen? ⟨g7,3,none⟩=false)/\zl1 w wr (w5.setCell ⟨g7,3,none⟩ ev') U g gw m D dv dr cv0 cv l g6 g7 gp B num es' ev':=by
 obtain⟨o1,o2,o3,o4,o5⟩:=h.ord;obtain⟨l1,l2,l3⟩:=h.lo;have hlt:=h.own.lt;have hn:∀ k,k<B->some k≠ev.ownBlock:=fun k hk e=>by have:=(hlt k e.symm).1;omega
 have hws:=h.ws.kg hg (fun k e=>⟨by have:=(hlt k e).1;omega,by have:=(hlt k e).1;omega,zl3 h.own h.ws.cnk (by decide) e,fun e2=>by have:=l3 k e2;have:=(hlt k e).1;omega⟩)
 have hfr:=h.frm.kg hg (fun k e=>by have:=(hlt k e).1;omega)
 have hb7:=h.b7.grown hg (hn g7 (by omega))
 have hg2:=z4a w5 g7 3 ev';have hcn:cv.ownBlock≠some g7:=zky hws.cnk hb7 (by decide)
 refine⟨⟨hb7.cell 3,hb7.frozen 3⟩,hws.kg hg2 (fun k e=>by injection e with e;subst e;exact⟨by omega,by omega,hcn,fun e2=>by have:=l3 g7 e2;omega⟩),hfr.kg hg2 (fun k e=>by injection e with e;omega),Blk.far (h.b6.grown hg (hn g6 (by omega))) (by show g7≠g6;omega) _,hb7.set_ 3 ev',Blk.far (h.bp.grown hg (hn gp (by omega))) (by show g7≠gp;omega) _,z5c ho (p:=⟨g7,3,none⟩) (fun e=>by have:=(ho.lt g7 e).1;omega) _,⟨o1,o2,o3,o4,Zf o5 (Zf hg.size hg2.size)⟩,h.lo⟩
end
theorem Row.capN {w:zW}{size n c:Nat}{A:zP}{xs:List zV}(h:Row w size (zL A n c) n xs):Row w size (zL A n n) n xs:=by
 obtain⟨A',c',e,hc,hm,hl,h0,hx⟩:=h;injection e with e1 e2 e3
 subst e1 e3;exact⟨A,n,rfl,Zd _,by omega,hl,fun e=>by have:=h0 e;omega,hx⟩
theorem zl4 {P:Program}{w:zW}{t e:TypeId}{size n c lo:Nat}{A:zP}{xs:List zV}(ht:P.underlying t=some (.slice e))(hs:∀ w,(sizeOf e).run P w=.ok size w)
  (h:Row w size (zL A n c) n xs) (h1:lo<=n):
  ∃ A',(∀ X,(Instr.sliceAt t (zL A n c) (some (zI lo)) (some (zI n)) (some (zI n))).run P X=.ok (zL A' (n - lo) (n - lo)) X)/\∀ w2 xs2,Row w2 size (zL A n c) n xs2->Row w2 size (zL A' (n - lo) (n - lo)) (n - lo) (xs2.drop (lo * size)):=by
 have he:P.elem t=e:=by simp [Program.elem,ht]
 have hc:n<=c:=by obtain⟨A',c',e,hc,-⟩:=id h;injection e with e1 e2 e3;omega
 refine⟨if n=lo then A else A.map (·.add (lo * size)),fun X=>?_,fun w2 xs2 h2=>?_⟩
 ·have ht':P.underlying t=some (.slice (P.elem t)):=by rw[he];exact ht
  rw[run_sliceAt_slice X t _ _ _ _ ht',run_slice_lhm X t A n c ht' _ _ _ _ _ _ (by omega) (by omega) (by omega) (by omega),he,hs]
  simp [Result.andThen,sliced]
 ·have hr:=Row.slice (Row.capN h2) h1 (Zd _);rw[ZQ (by rw[Zu,h2.len,<- Nat.sub_mul];exact Zd _)] at hr
  exact hr
theorem zl5 {P:Program}{t e:TypeId}{n c k g:Nat}(ht:P.underlying t=some (.slice e))(hs:∀ w,(sizeOf e).run P w=.ok 1 w)(h1:k<c)(X:zW):
  (Instr.sliceAt t (zL (some ⟨g,0,none⟩) n c) (some (zI k)) (some (zI (k+1))) (some (zI (k+1)))).run P X=.ok (zL (some ⟨g,k,none⟩) 1 1) X:=by
 have he:P.elem t=e:=by simp [Program.elem,ht]
 have ht':P.underlying t=some (.slice (P.elem t)):=by rw[he];exact ht
 rw[run_sliceAt_slice X t _ _ _ _ ht',run_slice_lhm X t _ n c ht' _ _ _ _ _ _ (by omega) (by omega) (by omega) (by omega),he,hs]
 have e1:((k:Int)+1).toNat=k+1:=by omega
 simp [Result.andThen,sliced,e1,Addr.add]
 exact fun h=>h.symm
theorem bd_row {w:zW}{B g cv n i:Nat}{e:TypeId}{xs:List zV}{s:zV}(h:w.ownsRow B e 1 (zL (some ⟨g,0,none⟩) n cv) n xs)(hs:xs[i]? = some s):Row w 1 (zL (some ⟨g,i,none⟩) 1 1) 1 [s]:=by
 have hi:i<xs.length:=(ZR.1 hs).1;have hl:xs.length=n * 1:=h.1;have hc:=zcq h;have hr:=Row.capN (Row.slice (Row.of_own h) (lo:=i) (hi:=i+1) (by omega) (by omega))
 have e1:i+1 - i=1:=by omega
 rw[if_neg (by omega),e1,Nat.mul_one,Zo hi] at hr
 rw[Ze hi] at hs;injection hs with hs
 rw[hs] at hr;have e2:(⟨g,0,none⟩:Addr).add i=⟨g,i,none⟩:=by unfold Addr.add;simp;exact fun h=>h.symm
 rw[Option.map_some,e2] at hr;exact hr
def zl6 (p q:Pat):List Pat:=(zi7 p.kp q.kp).map (fun s=>⟨[s],false⟩)++(if p.kr then [⟨q.kp.drop p.kp.length,q.kr⟩] else [])
structure zl7 (B g cv:Nat)(p q:Pat)(k a:Nat)(T:List zA)(bs:List PatM)(bv:zV)(w wr:zW):Prop where
 base:B<=w.heap.size
 low:Below B w wr
 tx:wr.ownsRow B 9 1 (zL (some ⟨g,0,none⟩) q.kp.length cv) q.kp.length (T.map .string)
 bd:wr.ownsRow B 213 2 bv bs.length (bs.flatMap PatM.cells)
 len:T.length=q.kp.length
 aft:∀ j,a<=j->T[j]? = q.kp[j]?
 mp:bs.map (·.1)=(zi7 (p.kp.take k) q.kp).map (fun s=>⟨[s],false⟩)
 ent:∀ x∈bs,∃ i s,i<k/\T[i]? = some s/\x=(⟨[s],false⟩,some ⟨g,i,none⟩,1)/\s.size<=30000000
theorem zl8:∀(l ms:List zA) (k:Nat) (h:k<l.length) (h2:k<ms.length),zi7 (l.take (k+1)) ms=zi7 (l.take k) ms++(if z8r l[k] then [zi4 l[k] ms[k]] else [])
 | x :: xs,m :: ms,0,_,_=>by
  show zi7 (x :: xs.take 0) (m :: ms)=zi7 [] (m :: ms)++_
  rw[List.take_zero];unfold zi7;cases h:z8r x <;> simp [zi7,h]
 | x :: xs,m :: ms,k+1,h,h2=>by
  have ih:=zl8 xs ms k (by simpa using h) (by simpa using h2)
  show zi7 (x :: xs.take (k+1)) (m :: ms)=zi7 (x :: xs.take k) (m :: ms)++_
  unfold zi7;rw[List.tail_cons,ih];cases z8r x <;> simp
theorem zl9 (x y:zA):(zi4 x y).size<=y.size:=by
 have h1:(zi4 x y).size=(Lib.trimSuffix y.data.toList (za5 x).data.toList).length:=z9c _;have h2:y.size=y.data.toList.length:=by rw[Array.length_toList];rfl
 rw[h1,h2];unfold Lib.trimSuffix;split
 ·exact List.length_take_le' _ _
 ·exact Zd _
theorem zl7.ku {B g cv:Nat}{p q:Pat}{k a:Nat}{T:List zA}{bs:List PatM}{bv:zV}{w wr wx:zW}(h:zl7 B g cv p q k a T bs bv w wr)(hb:zB wr wx):zl7 B g cv p q k a T bs bv w wx:=
 ⟨h.base,h.low.trans (hb.mono (Zf h.base h.low.size)),z0n h.tx hb,z0n h.bd hb,h.len,h.aft,h.mp,h.ent⟩
theorem zl7.skip {B g cv:Nat}{p q:Pat}{k:Nat}{T:List zA}{bs:List PatM}{bv:zV}{w wr:zW}(h:zl7 B g cv p q k k T bs bv w wr)(hk:k<p.kp.length)(hq:k<q.kp.length)(hs:z8r p.kp[k]=false):zl7 B g cv p q (k+1) (k+1) T bs bv w wr:=
 ⟨h.base,h.low,h.tx,h.bd,h.len,fun j hj=>h.aft j (by omega),by rw[h.mp,zl8 _ _ _ hk hq,hs];simp,fun x hx=>by obtain⟨i,s,h1,h2⟩:=h.ent x hx;exact⟨i,s,by omega,h2⟩⟩
theorem zl7.put {B g cv:Nat}{p q:Pat}{k:Nat}{T:List zA}{bs:List PatM}{bv:zV}{w wr:zW}(h:zl7 B g cv p q k k T bs bv w wr)(hq:k<q.kp.length)(s:zA):zl7 B g cv p q k (k+1) (T.set k s) bs bv w (wr.setCell ⟨g,k,none⟩ (zS s)):=by
 have hlt:B<=g:=(h.tx.lt g rfl).1;refine⟨h.base,h.low.setCell (p:=⟨g,k,none⟩) hlt _,?_,z5c h.bd (p:=⟨g,k,none⟩) ?_ _,by rw[List.length_set];exact h.len,fun j hj=>by rw[Zx (by omega)];exact h.aft j (by omega),h.mp,fun x hx=>?_⟩
 ·rw[List.map_set];exact zbz h.tx _
 ·exact zl3 h.tx h.bd (by decide) rfl
 ·obtain⟨i,t,h1,h2,h3⟩:=h.ent x hx;exact⟨i,t,h1,by rw[Zx (by omega)];exact h2,h3⟩
theorem zl7.push {B g cv:Nat}{p q:Pat}{k:Nat}{T:List zA}{bs:List PatM}{bv:zV}{w wr w2:zW}{s:zA}{A':zP}{c':Nat}(h:zl7 B g cv p q k (k+1) T bs bv w wr)(hk:k<p.kp.length)(hq:k<q.kp.length)(hs:z8r p.kp[k]=true)(hT:T[k]? = some s)(he:s=zi4 p.kp[k] q.kp[k])(hz:s.size<=30000000)
  (hown:w2.ownsRow B 213 2 (zL A' (bs.length+1) c') (bs.length+1) (bs.flatMap PatM.cells++[zL (some ⟨g,k,none⟩) 1 1,.bool false])) (hgr:wr.grownBy w2 bv.ownBlock):zl7 B g cv p q (k+1) (k+1) T (bs++[(⟨[s],false⟩,some ⟨g,k,none⟩,1)]) (zL A' (bs.length+1) c') w w2:=by
 refine⟨h.base,h.low.grown hgr (Zf h.base h.low.size) (fun x e=>(h.bd.lt x e).1),z5b h.tx hgr (fun x e=>?_),?_,h.len,h.aft,?_,fun x hx=>?_⟩
 ·exact fun e2=>zl3 h.bd h.tx (by decide) e2 e
 ·rw[Zc,ZI];exact hown
 ·rw[Zs,h.mp,zl8 _ _ _ hk hq,if_pos hs,Zs,he];rfl
 ·rcases Zy.1 hx with hx | hx
  ·obtain⟨i,t,h1,h2⟩:=h.ent x hx;exact⟨i,t,by omega,h2⟩
  ·exact⟨k,s,by omega,hT,Zm.1 hx,hz⟩
theorem zl7.holes {B g cv:Nat}{p q:Pat}{k a:Nat}{T:List zA}{bs:List PatM}{bv:zV}{w wr:zW}(h:zl7 B g cv p q k a T bs bv w wr):HolesIn wr bv bs:=
 ⟨Row.of_own h.bd,fun x hx=>by
  obtain⟨i,s,h1,h2,rfl,h4⟩:=h.ent x hx;refine⟨bd_row h.tx (by rw[ZA,h2];rfl),fun y hy=>?_⟩
  rw[Zm.1 hy];exact h4⟩
def zle (p:Pat)(zs tl:List zA)(tr:Bool):List Pat:=zs.map (fun s=>⟨[s],false⟩)++(if p.kr then [⟨tl,tr⟩] else [])
structure zlf (p:Pat)(zs tl:List zA)(tr:Bool):Prop where
 pat:z8w p=0
 num:zs.length=zbq p
 okz:∀ z∈zs,okS z
 okt:∀ z∈tl,okS z
 some:p.kr=true->tl≠[]\/tr=true
 none:p.kr=false->tl=[]/\tr=false
theorem sub_at {p:Pat}{zs tl:List zA}{tr:Bool}{bs:List PatM}(h:zlf p zs tl tr)(hb:bs.map (·.1)=zle p zs tl tr){k:Nat}(hk:k<bs.length):
  (∀ x∈bs[k].1.kp,z8t x≠0)/\((((k:Int) == (zbq p:Int))=true/\(bs[k].1.kp.length≠0\/bs[k].1.kr=true))\/(((k:Int) == (zbq p:Int))=false/\bs[k].1.kp.length=1/\bs[k].1.kr=false)):=by
 have h1:(bs.map (·.1))[k]? = some bs[k].1:=by rw[ZA,Ze hk];rfl
 rw[hb] at h1;unfold zle at h1;by_cases hz:k<zs.length
 ·rw[List.getElem?_append_left (by simpa using hz),ZA,Ze hz] at h1
  injection h1 with h1
  rw[<- h1];refine⟨fun x hx=>?_,.inr ⟨?_,rfl,rfl⟩⟩
  ·rw[Zm.1 hx];exact h.okz _ (Za _)
  ·have:=h.num;exact beq_eq_false_iff_ne.2 (by omega)
 ·rw[List.getElem?_append_right (by simpa using hz),Zk] at h1
  cases hr:p.kr with
  | false=>rw[hr] at h1;simp at h1
  | true =>
   rw[hr,if_pos rfl] at h1;obtain⟨hlt,h2⟩:=ZR.1 h1;have hke:k - zs.length=0:=by simp at hlt;omega
   have h3:bs[k].1=⟨tl,tr⟩:=by rw[<- h2];simp [hke]
   rw[h3];refine⟨h.okt,.inl ⟨?_,?_⟩⟩
   ·have:=h.num;exact beq_iff_eq.2 (by omega)
   ·rcases h.some hr with h4 | h4
    ·left;intro e;exact h4 (Zt e)
    ·exact .inr h4
structure zlg (p:Pat)(zs tl:List zA)(tr:Bool)(j:Nat)(D zs':List zA)(bs:List PatM):Prop where
 len:D.length=j
 eq:zcl p.kp zs=D++zcl (p.kp.drop j) zs'
 num:zs'.length=((p.kp.drop j).filter z8r).length
 mp:bs.map (·.1)=zs'.map (fun s=>⟨[s],false⟩)++(if p.kr then [⟨tl,tr⟩] else [])
theorem zlg.zero {p:Pat}{zs tl:List zA}{tr:Bool}{bs:List PatM}(h:zlf p zs tl tr)(hb:bs.map (·.1)=zle p zs tl tr):zlg p zs tl tr 0 [] zs bs:=⟨rfl,rfl,h.num,hb⟩
theorem zlg.skip {p:Pat}{zs tl:List zA}{tr:Bool}{j:Nat}{D zs':List zA}{bs:List PatM}(h:zlg p zs tl tr j D zs' bs)(hj:j<p.kp.length)(hs:z8r p.kp[j]=false):zlg p zs tl tr (j+1) (D++[p.kp[j]]) zs' bs:=by
 have hn:¬ z8r p.kp[j]=true:=by rw[hs];decide
 refine⟨by rw[Zc,h.len];rfl,?_,?_,h.mp⟩
 ·rw[h.eq,Zo hj,ZE];show D++(if z8r p.kp[j]=true then _ else _)=_
  rw[if_neg hn];rfl
 ·rw[h.num,Zo hj,List.filter_cons_of_neg hn]
theorem zlg.star {p:Pat}{zs tl:List zA}{tr:Bool}{j:Nat}{D zs':List zA}{bs:List PatM}(h:zlg p zs tl tr j D zs' bs)(hj:j<p.kp.length)(hs:z8r p.kp[j]=true):
  ∃ z zs'' b bs',zs'=z :: zs''/\bs=b :: bs'/\b.1=⟨[z],false⟩/\zlg p zs tl tr (j+1) (D++[z++za5 p.kp[j]]) zs'' bs':=by
 have hn:=h.num;rw[Zo hj,List.filter_cons_of_pos hs,Zz] at hn;cases zs' with
 | nil=>cases hn
 | cons z zs'' =>
  have hm:=h.mp;cases bs with
  | nil=>cases hm
  | cons b bs' =>
   rw[ZN,ZN,List.cons_append] at hm;injection hm with hm1 hm2
   refine⟨z,zs'',b,bs',rfl,rfl,hm1,by rw[Zc,h.len];rfl,?_,by simpa using hn,hm2⟩
   rw[h.eq,Zo hj,ZE];show D++(if z8r p.kp[j]=true then _ else _)=_
   rw[if_pos hs];rfl
theorem zlg.done {p:Pat}{zs tl:List zA}{tr:Bool}{D zs':List zA}{bs:List PatM}(h:zlg p zs tl tr p.kp.length D zs' bs):D=zcl p.kp zs/\bs.map (·.1)=(if p.kr then [⟨tl,tr⟩] else []):=by
 have hn:=h.num;have he:=h.eq;rw[Yd] at hn he;have h0:zs'=[]:=Zt hn;have hm:=h.mp;subst h0;refine⟨by rw[he];exact (ZM D).symm,hm⟩
theorem set_at {xs done:List zA}{k:Nat}{z:zA}(hd:done.length=k)(hx:k<xs.length):(done++xs.drop k).set k z=(done++[z])++xs.drop (k+1):=by
 subst hd;rw[Zo hx,List.set_append_right _ _ (by simp),Nat.sub_self,List.set_cons_zero,ZE];rfl
theorem HolesIn.tail {w:zW}{A:zP}{c:Nat}{b:PatM}{bs:List PatM}(h:HolesIn w (zL A (bs.length+1) c) (b :: bs)):
  ∃ A' c',(∀ X,(Instr.sliceAt 161 (zL A (bs.length+1) c) (some (zI 1)) none none).run prog X=.ok (zL A' bs.length c') X)/\HolesIn w (zL A' bs.length c') bs:=by
 have hr:=Row.slice h.1 (lo:=1) (hi:=bs.length+1) (by omega) (Zd _)
 have hc:bs.length+1<=c:=by obtain⟨A',c',e,hc,-⟩:=id h.1;injection e with e1 e2 e3;simp at hc;omega
 rw[Nat.add_sub_cancel,ZG,List.drop_append_of_le_length (by simp [PatM.cells]),ZX (by simp [PatM.cells]),Yc,ZQ (by
  have:=h.1.len;rw[ZG,Zc] at this;simp [PatM.cells] at this |-
  omega)] at hr
 refine⟨_,_,fun X=>?_,hr,fun q hq=>h.2 q (Zh _ hq)⟩;have he:prog.elem 161=213:=by kernel_rfl
 have ht':prog.underlying 161=some (.slice (prog.elem 161)):=by rw[he];exact underlying161
 have hs:∀ w,(sizeOf 213).run prog w=.ok 2 w:=fun w=>by kernel_rfl
 rw[run_sliceAt_slice X 161 _ _ _ _ ht',run_slice_l X 161 A (bs.length+1) c ht' _ _ (by omega) (by omega),he,hs]
 simp [Result.andThen,sliced]
