/- A part. -/
import Derived.Test.YtijghobkkdbhnaaGreatDoorMyAlF
set_option linter.unusedVariables false
set_option linter.unusedSimpArgs false
set_option maxHeartbeats 8000000
set_option maxRecDepth 100000
namespace Go.Proofs.YtijghobkkdbhnaaGreatDoor
open Go.Proofs.Tryz
open Go.RowKit
open Go.Sort (grow)
section
variable {u0 u1 u2 u3 u4 u5 u6 u7 u8 u9 gA gC gD gE gF gG gH gI gJ gK gL gM gN gO gP gQ gR gT gV gW gX gY gZ i6 i7 i8 ia ib ic ie ig ii ij ik il im io ip iq ir iu iv iw ix iy iz iA iB iC iD iE iF iG iH iI iJ iK iL iM iN iO iP iQ iR iS iT iU iV iW iX iY iZ j0 j1 j2 : Value}
theorem zi8 (w:World):(sizeOf 96).run prog w=.ok 3 w:=by kernel_rfl
theorem z4h.head {w:World}{A:Option Addr}{c n:Nat}{x:Hav}{r:List Hav}(h:z4h w (.slice A n c) (x :: r)):
  n=r.length+1∧∃ ad,A=some ad∧ad.block<w.heap.size∧z4i w ad x:=by
 have hn:n=(x :: r).length:=by obtain⟨A',c',e,-⟩:=id h;injection e
 subst hn;obtain⟨ad,e,hb,hc⟩:=z4h.at_ (k:=0) h (by simp)
 refine⟨rfl,ad,e,hb,?_⟩;have:ad.add (0 * 3)=ad:=by unfold Addr.add;simp
 rw[this] at hc;exact hc
theorem z4h.tail {w:World}{A:Option Addr}{c n:Nat}{x:Hav}{r:List Hav}(h:z4h w (.slice A n c) (x :: r)):
  ∃ A' c',(∀ X,(Instr.sliceAt 28 (.slice A n c) (some (.int .i64 1)) none none).run prog X=.ok (.slice A' r.length c') X)∧z4h w (.slice A' r.length c') r:=by
 have hn:n=(x :: r).length:=by obtain⟨A',c',e,-⟩:=id h;injection e
 subst hn;obtain⟨A',c',h1,h2⟩:=zbe (P:=prog) (w:=w) underlying28 zi8 h (by simp)
 exact⟨A',c',h1,h2⟩
theorem zi9 (x y:Hav)(W:World):(binOp .eql 96 (.agg #[.string x.path,.int .i64 x.num,.string x.loc]) (.agg #[.string y.path,.int .i64 y.num,.string y.loc])).run prog W=.ok (.bool (decide (x=y))) W:=by
 obtain⟨a,b,c⟩:=x;obtain⟨d,e,f⟩:=y;rw[run_eql_struct,run_equalIn_agg W 9999 96 _ _ (by kernel_rfl) (by kernel_rfl)]
 simp [go_sem,Op.eqFields,zdq]
 by_cases h1:a=d <;> by_cases h2:b=e <;> by_cases h3:c=f <;> simp [h1,h2,h3]
theorem z9s.set (w:World)(g i:Nat)(u:Value):z9s [g] w (w.setCell ⟨g,i,none⟩ u):=z9s.grown (z9t w g i u) (by simp)
theorem z9s.drew {S:List Nat}{w w':World}(h:z9s S w w'):z9s S w w'.drew:=h.trans (z9s.below (Below.refl _ _).drew)
theorem zia (ops:Array Oper)(hops:Tryz.f43.body.bind (z0x 12)=some ops)(Q:Exit→Act→World→Prop)(V1:World)(ad:Addr)(n c g7:Nat)(h:Hav)(v0 v1 v2 v3 v4:Value)(hh:z4i V1 ad h)(hB:Blk V1 g7 50 [v0,v1,v2,v3,v4])(hn:0<n)
  (hQ:∀(fh fi fj fk fm fp fq ft fu fv:Value) (w':World),z9s [g7] V1 w'→Blk w' g7 50 [v0,.string h.path,v2,.string h.loc,v4]→Q .normal ⟨#[.slice (some ad) n c,u1,u2,u3,u4,u5,u6,.pointer (some ⟨g7,0,none⟩),u8,u9,gA,gC,gD,gE,gF,gG,gH,gI,gJ,gK,gL,gM,gN,gO,gP,gQ,gR,gT,gV,gW,gX,gY,gZ,i6,i7,i8,ia,ib,ic,ie,ig,ii,ij,ik,il,im,io,fh,fi,fj,fk,fm,fp,fq,ft,fu,fv,iB,iC,iD,iE,iF,iG,iH,iI,iJ,iK,iL,iM,iN,iO,iP,iQ,iR,iS,iT,iU,iV,iW,iX,iY,iZ,j0,j1,j2],[]⟩ w'):
  (Code.region 12 ops true).wp prog Q ⟨#[.slice (some ad) n c,u1,u2,u3,u4,u5,u6,.pointer (some ⟨g7,0,none⟩),u8,u9,gA,gC,gD,gE,gF,gG,gH,gI,gJ,gK,gL,gM,gN,gO,gP,gQ,gR,gT,gV,gW,gX,gY,gZ,i6,i7,i8,ia,ib,ic,ie,ig,ii,ij,ik,il,im,io,ip,iq,ir,iu,iv,iw,ix,iy,iz,iA,iB,iC,iD,iE,iF,iG,iH,iI,iJ,iK,iL,iM,iN,iO,iP,iQ,iR,iS,iT,iU,iV,iW,iX,iY,iZ,j0,j1,j2],[]⟩ V1:=by
 simp only[Tryz.f43,Option.bind_some,z0x] at hops
 simp at hops
 subst hops;obtain⟨x0,x1,x2⟩:=hh;have y1:V1.cell? ⟨g7,1,none⟩=some v1:=hB.cell 1;have y3:V1.cell? ⟨g7,3,none⟩=some v3:=hB.cell 3;have f1:V1.frozen? ⟨g7,1,none⟩=false:=hB.frozen 1;have f3:V1.frozen? ⟨g7,3,none⟩=false:=hB.frozen 3;have hz:(0:Int)<(n:Int):=by omega
 have HQ:=hd_ hQ;have HB:=hd_ hB;clear hQ hB;refine wp_region_noPanic ?_;go_region_law (fail)
 all_goals exact NoPanic.normal (HQ.out _ _ _ _ _ _ _ _ _ _ _ (((z9s.set V1 g7 1 (.string h.path)).trans (z9s.set _ g7 3 (.string h.loc))).drew) ((HB.out.set_ 1 (.string h.path)).set_ 3 (.string h.loc)))
theorem zib (ops:Array Oper)(hops:Tryz.f43.body.bind (z0x 15)=some ops)(Q:Exit→Act→World→Prop)(V1:World)(ad:Addr)(n c g7:Nat)(h:Hav)(v0 v1 v2 v3 v4:Value)(hh:z4i V1 ad h)(hB:Blk V1 g7 50 [v0,v1,v2,v3,v4])(hn:0<n)(hne:ad.block≠g7)
  (hQ:∀(fB fC fD fE fF fG fH fI fJ fK fL fM fN fO fP:Value) (w':World),z9s [g7] V1 w'→Blk w' g7 50 [v0,.string h.path,.int .i64 h.num,v3,.string h.loc]→Q .normal ⟨#[u0,.slice (some ad) n c,u2,u3,u4,u5,u6,.pointer (some ⟨g7,0,none⟩),u8,u9,gA,gC,gD,gE,gF,gG,gH,gI,gJ,gK,gL,gM,gN,gO,gP,gQ,gR,gT,gV,gW,gX,gY,gZ,i6,i7,i8,ia,ib,ic,ie,ig,ii,ij,ik,il,im,io,ip,iq,ir,iu,iv,iw,ix,iy,iz,iA,iB,iC,iD,iE,fB,fC,fD,fE,fF,fG,fH,fI,fJ,fK,fL,fM,fN,fO,fP,iU,iV,iW,iX,iY,iZ,j0,j1,j2],[]⟩ w'):
  (Code.region 15 ops true).wp prog Q ⟨#[u0,.slice (some ad) n c,u2,u3,u4,u5,u6,.pointer (some ⟨g7,0,none⟩),u8,u9,gA,gC,gD,gE,gF,gG,gH,gI,gJ,gK,gL,gM,gN,gO,gP,gQ,gR,gT,gV,gW,gX,gY,gZ,i6,i7,i8,ia,ib,ic,ie,ig,ii,ij,ik,il,im,io,ip,iq,ir,iu,iv,iw,ix,iy,iz,iA,iB,iC,iD,iE,iF,iG,iH,iI,iJ,iK,iL,iM,iN,iO,iP,iQ,iR,iS,iT,iU,iV,iW,iX,iY,iZ,j0,j1,j2],[]⟩ V1:=by
 simp only[Tryz.f43,Option.bind_some,z0x] at hops
 simp at hops
 subst hops;obtain⟨x0,x1,x2⟩:=hh;have y1:V1.cell? ⟨g7,1,none⟩=some v1:=hB.cell 1;have y2:V1.cell? ⟨g7,2,none⟩=some v2:=hB.cell 2;have y4:V1.cell? ⟨g7,4,none⟩=some v4:=hB.cell 4;have f1:V1.frozen? ⟨g7,1,none⟩=false:=hB.frozen 1;have f2:V1.frozen? ⟨g7,2,none⟩=false:=hB.frozen 2;have f4:V1.frozen? ⟨g7,4,none⟩=false:=hB.frozen 4;have hz:(0:Int)<(n:Int):=by omega
 have n1:¬(ad.block=g7):=hne;have n2:¬(g7=ad.block):=fun e=>hne e.symm;have HQ:=hd_ hQ;have HB:=hd_ hB;clear hQ hB;refine wp_region_noPanic ?_;go_region_law (fail)
 all_goals exact NoPanic.normal (HQ.out _ _ _ _ _ _ _ _ _ _ _ _ _ _ _ _ ((((z9s.set V1 g7 1 (.string h.path)).trans (z9s.set _ g7 2 (.int .i64 h.num))).trans (z9s.set _ g7 4 (.string h.loc))).drew) (((HB.out.set_ 1 (.string h.path)).set_ 2 (.int .i64 h.num)).set_ 4 (.string h.loc)))
end
section
variable {u0 u1 u2 u3 u4 u5 u6 u7 u8 u9 gA gC gD gE gF gG gH gI gJ gK gL gM gN gO gP gQ gR gT gV gW gX gY gZ i6 i7 i8 ia ib ic ie ig ii ij ik il im io ip iq ir iu iv iw ix iy iz iA iB iC iD iE iF iG iH iI iJ iK iL iM iN iO iP iQ iR iS iT iU iV iW iX iY iZ j0 j1 j2 : Value}
theorem zic:z0e prog 43 50 5 64:=z0f underlying43 (z:=.agg #[.int .i64 0,.string ⟨#[]⟩,.int .i64 0,.string ⟨#[]⟩,.string ⟨#[]⟩]) (by kernel_rfl) rfl (by decide)
theorem zid (x:Syn):∀ v∈x.cells,v.oneCell'=true:=by
 intro v hv;simp only[Syn.cells,List.mem_cons,List.not_mem_nil,or_false] at hv
 rcases hv with rfl | rfl | rfl | rfl | rfl <;> rfl
theorem z9s.to_grown {g:Nat}{w w':World}(h:z9s [g] w w'):w.grownBy w' (some g):=⟨h.os,h.tape,h.output,h.size,fun k hk hne=>h.block k hk (by intro e;rw[List.mem_singleton] at e;exact hne (by rw[e]))⟩
def zie:Value→Nat
 | .slice _ n _=>n
 | _=>0
structure DfSt (w wr:World)(hs ws:List Hav)(hv wv pv:Value)(hs' ws':List Hav)(done:List Syn):Prop where
 low:zB w wr
 h:z4h w hv hs'
 v:z4h w wv ws'
 own:wr.ownsRow w.heap.size 50 5 pv done.length (done.flatMap Syn.cells)
 sub:(∀ x∈hs',x∈hs)∧∀ x∈ws',x∈ws
 len:done.length+(hs'.length+ws'.length)≤hs.length+ws.length
 is:∃ n,hs'.length+ws'.length≤n∧done++z6o n hs' ws'=z6o (hs.length+ws.length) hs ws
theorem DfSt.next {w wr w8:World}{hs ws:List Hav}{hv wv pv hv' wv':Value}{hs' ws' hs2 ws2:List Hav}{done:List Syn}{x:Syn}{A':Option Addr}{c':Nat}(h:DfSt w wr hs ws hv wv pv hs' ws' done)
  (hb:zB w w8) (ho:w8.ownsRow w.heap.size 50 5 (.slice A' (done.length+1) c') (done.length+1) (done.flatMap Syn.cells++x.cells))
  (h2:z4h w hv' hs2) (v2:z4h w wv' ws2) (s1:∀ x∈hs2,x∈hs') (s2:∀ x∈ws2,x∈ws') (hl:hs2.length+ws2.length<hs'.length+ws'.length) (he:∀ n,z6o (n+1) hs' ws'=x :: z6o n hs2 ws2):
  DfSt w w8 hs ws hv' wv' (.slice A' (done.length+1) c') hs2 ws2 (done++[x]):=by
 refine⟨hb,h2,v2,?_,⟨fun y hy=>h.sub.1 y (s1 y hy),fun y hy=>h.sub.2 y (s2 y hy)⟩,by rw[List.length_append,List.length_singleton];have:=h.len;omega,?_⟩
 ·rw[List.length_append,List.length_singleton,z5c];exact ho
 ·obtain⟨n,hn,e⟩:=h.is;cases n with
  | zero=>omega
  | succ n=>exact⟨n,by omega,by rw[← e,he,List.append_assoc];rfl⟩
theorem DfSt.same {w wr w8:World}{hs ws:List Hav}{hv wv pv hv' wv':Value}{hs' ws' hs2 ws2:List Hav}{done:List Syn}(h:DfSt w wr hs ws hv wv pv hs' ws' done)
  (hb:zB w w8) (ho:w8.ownsRow w.heap.size 50 5 pv done.length (done.flatMap Syn.cells))
  (h2:z4h w hv' hs2) (v2:z4h w wv' ws2) (s1:∀ x∈hs2,x∈hs') (s2:∀ x∈ws2,x∈ws') (hl:hs2.length+ws2.length<hs'.length+ws'.length) (he:∀ n,z6o (n+1) hs' ws'=z6o n hs2 ws2):
  DfSt w w8 hs ws hv' wv' pv hs2 ws2 done:=by
 refine⟨hb,h2,v2,ho,⟨fun y hy=>h.sub.1 y (s1 y hy),fun y hy=>h.sub.2 y (s2 y hy)⟩,by have:=h.len;omega,?_⟩
 obtain⟨n,hn,e⟩:=h.is;cases n with
 | zero=>omega
 | succ n=>exact⟨n,by omega,by rw[← e,he]⟩
theorem z4h.tail2 {w:World}{ad:Addr}{c n:Nat}{x:Hav}{r:List Hav}(h:z4h w (.slice (some ad) n c) (x :: r)):
  z4h w (.slice (if c=1 then some ad else some ⟨ad.block,ad.off+3,none⟩) r.length (c - 1)) r:=by
 obtain⟨A,c',e,h1,h2,h3,h4,h5⟩:=id h;injection e with e1 e2 e3
 subst e1 e3;rw[List.length_cons] at h1 h5;refine⟨_,_,rfl,by omega,by omega,by
  rw[List.flatMap_cons,List.length_append,List.length_cons] at h3;have h9:x.cells.length=3:=rfl;omega,?_,fun hr=>?_⟩
 ·intro hn;split at hn <;> cases hn
 obtain⟨ad',e',hb,hc⟩:=h5 (by omega)
 injection e' with e'
 subst e';rw[if_neg (by omega)]
 refine⟨_,rfl,hb,fun j u hj=>?_⟩;have:=hc (j+3) u (by
  rw[List.flatMap_cons,List.getElem?_append_right (by simp [Hav.cells])]
  simpa [Hav.cells] using hj)
 unfold Addr.add at this ⊢
 by_cases h0:j=0
 ·subst h0;simpa using this
 ·simpa [Nat.add_assoc,Nat.add_comm 3 j,h0] using this
theorem z4i.below {w w':World}{ad:Addr}{x:Hav}(h:z4i w ad x)(hab:ad.block<w.heap.size)(hb:zB w w'):z4i w' ad x:=
 ⟨(hb.cell hab).trans h.1,(hb.cell (p:=⟨ad.block,ad.off+1,none⟩) hab).trans h.2.1,(hb.cell (p:=⟨ad.block,ad.off+2,none⟩) hab).trans h.2.2⟩
theorem dfR4 (ops:Array Oper)(hops:Tryz.f43.body.bind (z0x 4)=some ops)(Q:Exit→Act→World→Prop)(V1:World)(ad ad2:Addr)(n c n2 c2:Nat)(x y:Hav)(hx:z4i V1 ad x)(hy:z4i V1 ad2 y)(hn:0<n)(hn2:0<n2)(h1:x.path.size≤1000000)(h2:y.path.size≤1000000)
  (hQ:∀(eA eB eC eD eE eF eG eH eI:Value) (w':World),zB V1 w'→Q .normal ⟨#[.slice (some ad) n c,.slice (some ad2) n2 c2,u2,u3,u4,u5,.int .i64 (z2z x.path y.path),u7,u8,u9,gA,gC,gD,gE,gF,gG,gH,eA,eB,eC,eD,eE,eF,eG,eH,eI,gR,gT,gV,gW,gX,gY,gZ,i6,i7,i8,ia,ib,ic,ie,ig,ii,ij,ik,il,im,io,ip,iq,ir,iu,iv,iw,ix,iy,iz,iA,iB,iC,iD,iE,iF,iG,iH,iI,iJ,iK,iL,iM,iN,iO,iP,iQ,iR,iS,iT,iU,iV,iW,iX,iY,iZ,j0,j1,j2],[]⟩ w'):
  (Code.region 4 ops true).wp prog Q ⟨#[.slice (some ad) n c,.slice (some ad2) n2 c2,u2,u3,u4,u5,u6,u7,u8,u9,gA,gC,gD,gE,gF,gG,gH,gI,gJ,gK,gL,gM,gN,gO,gP,gQ,gR,gT,gV,gW,gX,gY,gZ,i6,i7,i8,ia,ib,ic,ie,ig,ii,ij,ik,il,im,io,ip,iq,ir,iu,iv,iw,ix,iy,iz,iA,iB,iC,iD,iE,iF,iG,iH,iI,iJ,iK,iL,iM,iN,iO,iP,iQ,iR,iS,iT,iU,iV,iW,iX,iY,iZ,j0,j1,j2],[]⟩ V1:=by
 simp only[Tryz.f43,Option.bind_some,z0x] at hops
 simp at hops
 subst hops;obtain⟨x0,-,-⟩:=hx;obtain⟨y0,-,-⟩:=hy;have hz:(0:Int)<(n:Int):=by omega
 have hz2:(0:Int)<(n2:Int):=by omega
 have HQ:=hd_ hQ;have HC:=hd_ (fun X=>z47 x.path y.path X (by omega) (by omega))
 generalize x.path=a at x0 HC HQ;generalize y.path=b at y0 HC HQ;generalize z2z a b=cc at HC HQ;clear hQ h1 h2;refine wp_region_noPanic ?_;go_region_law (go_simp;go_at_call 55;refine (HC.out _).mono ?_;rintro e w5 ⟨rfl,n5,rfl⟩)
 all_goals exact NoPanic.normal (HQ.out _ _ _ _ _ _ _ _ _ _ (z9r V1 _))
theorem df7 {w WR:World}{v:Value}{n:Nat}{xs:List Value}(hl:zB w WR)(ho:WR.ownsRow w.heap.size 50 5 v n xs):
  ∃ W7 g7,WR.alloc (.cells #[.int .i64 0,.string ⟨#[]⟩,.int .i64 0,.string ⟨#[]⟩,.string ⟨#[]⟩] 50)=W7∧WR.heap.size=g7∧Hid (zB w W7)∧Hid (W7.ownsRow w.heap.size 50 5 v n xs)∧Hid (Blk W7 g7 50 [.int .i64 0,.string ⟨#[]⟩,.int .i64 0,.string ⟨#[]⟩,.string ⟨#[]⟩])∧Hid (w.heap.size≤g7∧∀ k,v.ownBlock=some k→k<g7):=
 ⟨_,_,rfl,rfl,hl.alloc hl.size _,z0n ho ((Below.refl WR.heap.size WR).alloc (Nat.le_refl _) _),z0l WR _ _,hl.size,fun k e=>(ho.lt k e).2⟩
theorem df8 {w W7:World}{v:Value}{n g7:Nat}{xs cs:List Value}(nq:Nat)(hl:zB w W7)(ho:W7.ownsRow w.heap.size 50 5 v n xs)(hb:Blk W7 g7 50 cs):
  ∃ W8,W7.drewN nq=W8∧Hid (zB w W8)∧Hid (W8.ownsRow w.heap.size 50 5 v n xs)∧Hid (Blk W8 g7 50 cs):=
 ⟨_,rfl,hl.trans ((z9r W7 nq).mono hl.size),ho,hb⟩
theorem df9 {w W8 W9:World}{v a b c d e:Value}{n g7:Nat}{xs:List Value}(hK:z9s [g7] W8 W9)(hB:Blk W9 g7 50 [a,b,c,d,e])(hg:w.heap.size≤g7∧∀ k,v.ownBlock=some k→k<g7)(hl:zB w W8)(ho:W8.ownsRow w.heap.size 50 5 v n xs):
  (W9.cell? ⟨g7,0,none⟩=some a∧W9.cell? ⟨g7,1,none⟩=some b∧W9.cell? ⟨g7,2,none⟩=some c∧W9.cell? ⟨g7,3,none⟩=some d∧W9.cell? ⟨g7,4,none⟩=some e)∧Hid ((W9.alloc (.cells #[a,b,c,d,e] 50)).ownsRow w.heap.size 50 5 v n xs)∧Hid (zB w (W9.alloc (.cells #[a,b,c,d,e] 50))) ∧
  Row (W9.alloc (.cells #[a,b,c,d,e] 50)) 5 (.slice (some ⟨W9.heap.size,0,none⟩) 1 1) 1 [a,b,c,d,e]:=by
 have h1:=z4w ho hK.to_grown (fun k e e2=>by injection e2 with e2;have:=hg.2 k e;omega)
 have h2:=hl.trans (hK.to_below (fun s hs=>by rw[List.mem_singleton] at hs;have:=hg.1;omega) hl.size)
 exact⟨⟨hB.cell 0,hB.cell 1,hB.cell 2,hB.cell 3,hB.cell 4⟩,z0n h1 ((Below.refl W9.heap.size W9).alloc (Nat.le_refl _) _),h2.alloc h2.size _,z0i W9 [a,b,c,d,e] 50 5 1 rfl (by decide) _ rfl⟩
theorem zif (hs ws:List Hav)(hv wv:Value)(w:World)(hH:z4h w hv hs)(hW:z4h w wv ws)(hz:∀ x∈hs,x.path.size≤1000000)(hz2:∀ x∈ws,x.path.size≤1000000)(hl:hs.length+ws.length≤1000000):
  Calls prog 43 #[hv,wv] w fun e w'=>∃ v,e=.returned v∧w'.ownsRow w.heap.size 50 5 v (z6o (hs.length+ws.length) hs ws).length ((z6o (hs.length+ws.length) hs ws).flatMap Syn.cells)∧zB w w':=by
 have HZ:=hd_ hz;have HZ2:=hd_ hz2;have HS0:Hid (DfSt w w hs ws hv wv (.slice none 0 0) hs ws []):=hd_ ⟨Below.refl _ _,hH,hW,World.ownsRow_nil _ _ _ _,⟨fun _ h=>h,fun _ h=>h⟩,by simp,_,Nat.le_refl _,rfl⟩
 clear hH hW hz hz2;go_enter func43,ntmps43;go_wp2_with fail;go_loopw [0,1,5] (fun a b p wr=>∃(hs' ws':List Hav) (done:List Syn),Hid (DfSt w wr hs ws a b p hs' ws' done)) (fun a b _ _=>zie a+zie b)
 case atStart=>exact⟨hs,ws,[],HS0⟩
 case round =>
  obtain⟨hs',ws',done,HI⟩:=hrel;clear HS0;obtain⟨A1,c1,rfl,-⟩:=id HI.out.h;obtain⟨A2,c2,rfl,-⟩:=id HI.out.v;obtain⟨A3,c3,rfl⟩:=z0o HI.out.own;have hdl:done.length+(hs'.length+ws'.length)≤1000000:=by have:=HI.out.len;omega
  have HSZ:=hd_ (Nat.le_trans HI.out.low.size (Nat.le_refl _));cases hs' with
  | nil =>
   cases ws' with
   | nil =>
    have HEND:Hid (done=z6o (hs.length+ws.length) hs ws):=hd_ (by
     obtain⟨n,-,e⟩:=HI.out.is;rw[← e];cases n <;> simp [z6o])
    go_wp2_with fail;go_ret;refine⟨_,rfl,?_,HI.out.low⟩;rw[← HEND.out];exact HI.out.own
   | cons y yr =>
    obtain⟨-,ad2,rfl,hab2,hY⟩:=z4h.head HI.out.v;have hTY:=z4h.tail2 HI.out.v;have HYB:Hid (z4i w ad2 y∧ad2.block<w.heap.size):=hd_ ⟨hY,hab2⟩;have HTY:=hd_ hTY;clear hab2 hY hTY;have HLR:=hd_ HI.out.low;have HOR:=hd_ HI.out.own;obtain⟨WR,hWR⟩:∃ X,X=wr:=⟨_,rfl⟩;subst hWR;go_upto_region 10 with fail;obtain⟨W7,g7,e7,f7,HL7,HO7,HB7,HG7⟩:=df7 HLR.out HOR.out;rw[e7,f7];clear e7 f7;go_quiet (fail)
    go_upto_region 15 with fail;obtain⟨W8,e8,HL8,HO8,HB8⟩:=df8 nq HL7.out HO7.out HB7.out;rw[e8];clear e8;refine zib _ (by kernel_rfl) _ W8 ad2 (yr.length+1) c2 g7 y _ _ _ _ _ (HYB.out.1.below HYB.out.2 HL8.out) HB8.out (by omega) (fun e=>by have h1:ad2.block<w.heap.size:=HYB.out.2;have h2:=HG7.out.1;omega) ?_
    intro fB fC fD fE fF fG fH fI fJ fK fL fM fN fO fP W9 hK hB;obtain⟨⟨b0,b1,b2,b3,b4⟩,HOX,HLX,hrow⟩:=df9 hK hB HG7.out HL8.out HO8.out;clear hK hB;go_wp2_with (at_builtin;refine z0k rfl rfl zic HOX.out rfl hrow rfl HLX.out HLX.out.size (zid (z6m y)) (by omega) (by unfold maxLen;omega) ?_;intro A9 c9 w9 hown9 hbl9)
    have HN:=hd_ (HI.out.next (x:=z6m y) hbl9 hown9 HI.out.h HTY.out (fun z hz=>hz) (fun z hz=>List.mem_cons_of_mem _ hz) (by simp only[List.length_cons,List.length_nil];omega) (fun n=>rfl))
    clear hown9 hbl9;go_wp2_with fail;go_roundw
    case rel=>exact⟨[],yr,done++[z6m y],HN⟩
    case measure=>first | (simp [zie];done) | (simp [zie];omega)
  | cons x hr =>
   cases ws' with
   | nil =>
    obtain⟨-,ad,rfl,hab,hX⟩:=z4h.head HI.out.h;have hTX:=z4h.tail2 HI.out.h;have HXB:Hid (z4i w ad x∧ad.block<w.heap.size):=hd_ ⟨hX,hab⟩;have HTX:=hd_ hTX;clear hab hX hTX;have HLR:=hd_ HI.out.low;have HOR:=hd_ HI.out.own;obtain⟨WR,hWR⟩:∃ X,X=wr:=⟨_,rfl⟩;subst hWR;go_upto_region 10 with fail;obtain⟨W7,g7,e7,f7,HL7,HO7,HB7,HG7⟩:=df7 HLR.out HOR.out;rw[e7,f7];clear e7 f7;go_quiet (fail)
    go_upto_region 12 with fail;obtain⟨W8,e8,HL8,HO8,HB8⟩:=df8 nq HL7.out HO7.out HB7.out;rw[e8];clear e8;refine zia _ (by kernel_rfl) _ W8 ad (hr.length+1) c1 g7 x _ _ _ _ _ (HXB.out.1.below HXB.out.2 HL8.out) HB8.out (by omega) ?_
    intro fh fi fj fk fm fp fq ft fu fv W9 hK hB;obtain⟨⟨b0,b1,b2,b3,b4⟩,HOX,HLX,hrow⟩:=df9 hK hB HG7.out HL8.out HO8.out;clear hK hB;go_wp2_with (at_builtin;refine z0k rfl rfl zic HOX.out rfl hrow rfl HLX.out HLX.out.size (zid (z6n x)) (by omega) (by unfold maxLen;omega) ?_;intro A9 c9 w9 hown9 hbl9)
    have HN:=hd_ (HI.out.next (x:=z6n x) hbl9 hown9 HTX.out HI.out.v (fun z hz=>List.mem_cons_of_mem _ hz) (fun z hz=>hz) (by simp only[List.length_cons,List.length_nil];omega) (fun n=>rfl))
    clear hown9 hbl9;go_wp2_with fail;go_roundw
    case rel=>exact⟨hr,[],done++[z6n x],HN⟩
    case measure=>first | (simp [zie];done) | (simp [zie];omega)
   | cons y yr =>
    obtain⟨-,ad,rfl,hab,hX⟩:=z4h.head HI.out.h;have hTX:=z4h.tail2 HI.out.h;have HXB:Hid (z4i w ad x∧ad.block<w.heap.size):=hd_ ⟨hX,hab⟩;have HTX:=hd_ hTX;clear hab hX hTX;obtain⟨-,ad2,rfl,hab2,hY⟩:=z4h.head HI.out.v;have hTY:=z4h.tail2 HI.out.v;have HYB:Hid (z4i w ad2 y∧ad2.block<w.heap.size):=hd_ ⟨hY,hab2⟩;have HTY:=hd_ hTY;clear hab2 hY hTY;have hzx:x.path.size≤1000000:=HZ.out x (HI.out.sub.1 x (List.mem_cons_self ..));have hzy:y.path.size≤1000000:=HZ2.out y (HI.out.sub.2 y (List.mem_cons_self ..));go_upto_region 4 with fail;refine dfR4 _ (by kernel_rfl) _ wr ad ad2 (hr.length+1) c1 (yr.length+1) c2 x y (HXB.out.1.below HXB.out.2 HI.out.low) (HYB.out.1.below HYB.out.2 HI.out.low) (by omega) (by omega) hzx hzy ?_
    intro eA eB eC eD eE eF eG eH eI WR hb4;have HLR:=hd_ (z0r HI.out.low hb4);have HOR:=hd_ (z0n HI.out.own hb4);clear hb4 hzx hzy;obtain⟨cc,hcc⟩:∃ cc,z2z x.path y.path=cc:=⟨_,rfl⟩;rw[hcc];by_cases h1:cc<0
    ·have q1:(cc == 0)=false:=by rw[beq_eq_false_iff_ne];omega
     have q2:decide (cc≤0)=true:=by simp;omega
     have q3:decide (0≤cc)=false:=by simp;omega
     have HCC:Hid (z2z x.path y.path<0):=hd_ (by rw[hcc];exact h1)
     clear hcc h1;go_upto_region 10 with fail;obtain⟨W7,g7,e7,f7,HL7,HO7,HB7,HG7⟩:=df7 HLR.out HOR.out;rw[e7,f7];clear e7 f7;go_quiet (fail)
     go_upto_region 12 with fail;obtain⟨W8,e8,HL8,HO8,HB8⟩:=df8 nq HL7.out HO7.out HB7.out;rw[e8];clear e8;refine zia _ (by kernel_rfl) _ W8 ad (hr.length+1) c1 g7 x _ _ _ _ _ (HXB.out.1.below HXB.out.2 HL8.out) HB8.out (by omega) ?_
     intro fh fi fj fk fm fp fq ft fu fv W9 hK hB;obtain⟨⟨b0,b1,b2,b3,b4⟩,HOX,HLX,hrow⟩:=df9 hK hB HG7.out HL8.out HO8.out;clear hK hB;go_wp2_with (at_builtin;refine z0k rfl rfl zic HOX.out rfl hrow rfl HLX.out HLX.out.size (zid (z6n x)) (by omega) (by unfold maxLen;omega) ?_;intro A9 c9 w9 hown9 hbl9)
     have HN:=hd_ (HI.out.next (x:=z6n x) hbl9 hown9 HTX.out HI.out.v (fun z hz=>List.mem_cons_of_mem _ hz) (fun z hz=>hz) (by simp only[List.length_cons,List.length_nil];omega) (fun n=>by simp only[z6o];rw[if_pos HCC.out]))
     clear hown9 hbl9;go_wp2_with fail;go_roundw
     case rel=>exact⟨hr,(y :: yr),done++[z6n x],HN⟩
     case measure=>first | (simp [zie];done) | (simp [zie];omega)
    ·by_cases h2:0<cc
     ·have q1:(cc == 0)=false:=by rw[beq_eq_false_iff_ne];omega
      have q2:decide (cc≤0)=false:=by simp;omega
      have q3:decide (0≤cc)=true:=by simp;omega
      have HCC:Hid (¬ z2z x.path y.path<0∧0<z2z x.path y.path):=hd_ (by rw[hcc];exact⟨h1,h2⟩)
      clear hcc h1 h2;go_upto_region 10 with fail;obtain⟨W7,g7,e7,f7,HL7,HO7,HB7,HG7⟩:=df7 HLR.out HOR.out;rw[e7,f7];clear e7 f7;go_quiet (fail)
      go_upto_region 15 with fail;obtain⟨W8,e8,HL8,HO8,HB8⟩:=df8 nq HL7.out HO7.out HB7.out;rw[e8];clear e8;refine zib _ (by kernel_rfl) _ W8 ad2 (yr.length+1) c2 g7 y _ _ _ _ _ (HYB.out.1.below HYB.out.2 HL8.out) HB8.out (by omega) (fun e=>by have h1:ad2.block<w.heap.size:=HYB.out.2;have h2:=HG7.out.1;omega) ?_
      intro fB fC fD fE fF fG fH fI fJ fK fL fM fN fO fP W9 hK hB;obtain⟨⟨b0,b1,b2,b3,b4⟩,HOX,HLX,hrow⟩:=df9 hK hB HG7.out HL8.out HO8.out;clear hK hB;go_wp2_with (at_builtin;refine z0k rfl rfl zic HOX.out rfl hrow rfl HLX.out HLX.out.size (zid (z6m y)) (by omega) (by unfold maxLen;omega) ?_;intro A9 c9 w9 hown9 hbl9)
      have HN:=hd_ (HI.out.next (x:=z6m y) hbl9 hown9 HI.out.h HTY.out (fun z hz=>hz) (fun z hz=>List.mem_cons_of_mem _ hz) (by simp only[List.length_cons,List.length_nil];omega) (fun n=>by simp only[z6o];rw[if_neg HCC.out.1,if_pos HCC.out.2]))
      clear hown9 hbl9;go_wp2_with fail;go_roundw
      case rel=>exact⟨(x :: hr),yr,done++[z6m y],HN⟩
      case measure=>first | (simp [zie];done) | (simp [zie];omega)
     ·have HCC:Hid (¬ z2z x.path y.path<0∧¬ 0<z2z x.path y.path):=hd_ (by rw[hcc];exact⟨h1,h2⟩)
      obtain rfl:cc=0:=by omega
      clear hcc h1 h2;by_cases hxy:x=y
      ·go_upto_region 10 with fail;obtain⟨W7,g7,e7,f7,HL7,HO7,HB7,HG7⟩:=df7 HLR.out HOR.out;rw[e7,f7];clear e7 f7;obtain⟨x0,x1,x2⟩:=HXB.out.1.below HXB.out.2 HL7.out;obtain⟨y0,y1,y2⟩:=HYB.out.1.below HYB.out.2 HL7.out;have heq:=fun W=>zi9 x y W;have HXY:=hd_ hxy;rw[decide_eq_true hxy] at heq;have hzx:(0:Int)<((hr.length+1:Nat):Int):=by omega
       have hzy:(0:Int)<((yr.length+1:Nat):Int):=by omega
       clear hxy;go_quiet (fail)
       clear x0 x1 x2 y0 y1 y2 heq hzx hzy;go_upto_region 12 with fail;obtain⟨W8,e8,HL8,HO8,HB8⟩:=df8 nq HL7.out HO7.out HB7.out;rw[e8];clear e8;refine zia _ (by kernel_rfl) _ W8 ad (hr.length+1) c1 g7 x _ _ _ _ _ (HXB.out.1.below HXB.out.2 HL8.out) HB8.out (by omega) ?_
       intro fh fi fj fk fm fp fq ft fu fv W9 hK hB;have HB8:=hd_ hB;have HO8:=hd_ (z4w HO8.out hK.to_grown (fun k e e2=>by injection e2 with e2;have:=HG7.out.2 k e;omega))
       have HL8:=hd_ (HL8.out.trans (hK.to_below (fun s hs=>by rw[List.mem_singleton] at hs;have:=HG7.out.1;omega) HL8.out.size))
       clear hK hB;go_upto_region 15 with fail;obtain⟨W8,rfl⟩:∃ X,X=W9:=⟨_,rfl⟩;refine zib _ (by kernel_rfl) _ W8 ad2 (yr.length+1) c2 g7 y _ _ _ _ _ (HYB.out.1.below HYB.out.2 HL8.out) HB8.out (by omega) (fun e=>by have h1:ad2.block<w.heap.size:=HYB.out.2;have h2:=HG7.out.1;omega) ?_
       intro fB fC fD fE fF fG fH fI fJ fK fL fM fN fO fP W9 hK hB;have HB8:=hd_ hB;have HO8:=hd_ (z4w HO8.out hK.to_grown (fun k e e2=>by injection e2 with e2;have:=HG7.out.2 k e;omega))
       have HL8:=hd_ (HL8.out.trans (hK.to_below (fun s hs=>by rw[List.mem_singleton] at hs;have:=HG7.out.1;omega) HL8.out.size))
       clear hK hB;have HN:=hd_ (HI.out.same HL8.out HO8.out HTX.out HTY.out (fun z hz=>List.mem_cons_of_mem _ hz) (fun z hz=>List.mem_cons_of_mem _ hz) (by simp only[List.length_cons,List.length_nil];omega) (fun n=>by simp only[z6o];rw[if_neg HCC.out.1,if_neg HCC.out.2];simp [HXY.out]))
       go_wp2_with fail;go_roundw
       case rel=>exact⟨hr,yr,done,HN⟩
       case measure=>first | (simp [zie];done) | (simp [zie];omega)
      ·go_upto_region 10 with fail;obtain⟨W7,g7,e7,f7,HL7,HO7,HB7,HG7⟩:=df7 HLR.out HOR.out;rw[e7,f7];clear e7 f7;obtain⟨x0,x1,x2⟩:=HXB.out.1.below HXB.out.2 HL7.out;obtain⟨y0,y1,y2⟩:=HYB.out.1.below HYB.out.2 HL7.out;have heq:=fun W=>zi9 x y W;have HXY:=hd_ hxy;rw[decide_eq_false hxy] at heq;have hzx:(0:Int)<((hr.length+1:Nat):Int):=by omega
       have hzy:(0:Int)<((yr.length+1:Nat):Int):=by omega
       clear hxy;go_quiet (fail)
       clear x0 x1 x2 y0 y1 y2 heq hzx hzy;go_upto_region 12 with fail;obtain⟨W8,e8,HL8,HO8,HB8⟩:=df8 nq HL7.out HO7.out HB7.out;rw[e8];clear e8;refine zia _ (by kernel_rfl) _ W8 ad (hr.length+1) c1 g7 x _ _ _ _ _ (HXB.out.1.below HXB.out.2 HL8.out) HB8.out (by omega) ?_
       intro fh fi fj fk fm fp fq ft fu fv W9 hK hB;have HB8:=hd_ hB;have HO8:=hd_ (z4w HO8.out hK.to_grown (fun k e e2=>by injection e2 with e2;have:=HG7.out.2 k e;omega))
       have HL8:=hd_ (HL8.out.trans (hK.to_below (fun s hs=>by rw[List.mem_singleton] at hs;have:=HG7.out.1;omega) HL8.out.size))
       clear hK hB;go_upto_region 15 with fail;obtain⟨W8,rfl⟩:∃ X,X=W9:=⟨_,rfl⟩;refine zib _ (by kernel_rfl) _ W8 ad2 (yr.length+1) c2 g7 y _ _ _ _ _ (HYB.out.1.below HYB.out.2 HL8.out) HB8.out (by omega) (fun e=>by have h1:ad2.block<w.heap.size:=HYB.out.2;have h2:=HG7.out.1;omega) ?_
       intro fB fC fD fE fF fG fH fI fJ fK fL fM fN fO fP W9 hK hB;obtain⟨⟨b0,b1,b2,b3,b4⟩,HOX,HLX,hrow⟩:=df9 hK hB HG7.out HL8.out HO8.out;clear hK hB;go_wp2_with (at_builtin;refine z0k rfl rfl zic HOX.out rfl hrow rfl HLX.out HLX.out.size (zid (updT x y)) (by omega) (by unfold maxLen;omega) ?_;intro A9 c9 w9 hown9 hbl9)
       have HN:=hd_ (HI.out.next (x:=updT x y) hbl9 hown9 HTX.out HTY.out (fun z hz=>List.mem_cons_of_mem _ hz) (fun z hz=>List.mem_cons_of_mem _ hz) (by simp only[List.length_cons,List.length_nil];omega) (fun n=>by simp only[z6o];rw[if_neg HCC.out.1,if_neg HCC.out.2];simp [HXY.out]))
       clear hown9 hbl9;go_wp2_with fail;go_roundw
       case rel=>exact⟨hr,yr,done++[updT x y],HN⟩
       case measure=>first | (simp [zie];done) | (simp [zie];omega)
end
def zo2:Hav:=⟨z2q,0,z2q⟩
def HgPost (w:World)(o:Option Hav)(e:Ending)(w':World):Prop:=e=.returned (.tuple #[.agg #[.string (o.getD zo2).path,.int .i64 (o.getD zo2).num,.string (o.getD zo2).loc],.bool o.isSome])∧zB w w'
theorem zo3 {k:Hav→ByteArray}{l:List Hav}{p:ByteArray}{i:Nat}(hi:i<l.length)(h:∀ j (hj:j<l.length),j<i→k l[j]≠p)(e:k l[i]=p):z64 k l p=some l[i]:=by
 unfold z64;rw[List.find?_eq_some_iff_getElem];exact⟨by simpa using e,i,hi,rfl,fun j hj=>by simpa using h j (by omega) hj⟩
theorem zo4 {k:Hav→ByteArray}{l:List Hav}{p:ByteArray}(h:∀ j (hj:j<l.length),k l[j]≠p):z64 k l p=none:=z68.2 fun a ha=>by
 obtain⟨j,hj,rfl⟩:=List.getElem_of_mem ha;exact h j hj
theorem zo5 (l:List Hav)(v:Value)(s:ByteArray)(w:World)(hL:z4h w v l)(hl:l.length≤1000000):
  Calls prog 94 #[v,.string s] w (HgPost w (z64 Hav.path l s)):=by
 obtain⟨A,c,rfl,-⟩:=id hL;have hA:zB w (w.alloc (.cells #[.string ⟨#[]⟩,.int .i64 0,.string ⟨#[]⟩] 96)):=(Below.refl _ _).alloc (Nat.le_refl _) _;have HB:Hid (Blk _ _ 96 [.string ⟨#[]⟩,.int .i64 0,.string ⟨#[]⟩]):=hd_ (z0l w _ _);have HA:=hd_ hA;have HL:=hd_ hL;clear hL hA;go_enter func94,ntmps94;go_upto_region 1 with fail;generalize w.alloc (.cells #[.string ⟨#[]⟩,.int .i64 0,.string ⟨#[]⟩] 96)=W1 at HA HB ⊢;go_wp2_with fail;go_loop [6] (fun i=>∃ k:Nat,i=.int .i64 k∧k≤l.length∧Hid (∀ j (hj:j<l.length),j<k→l[j].path≠s)) (fun i=>l.length - (intOf i).toNat)
 case atStart=>exact⟨0,rfl,Nat.zero_le _,hd_ (fun j _ h=>by omega)⟩
 case round =>
  obtain⟨k,rfl,hk,HI⟩:=hrel;obtain⟨f0,f1,f2⟩:=(⟨HB.out.frozen 0,HB.out.frozen 1,HB.out.frozen 2⟩:W1.frozen? ⟨w.heap.size,0,none⟩=false∧W1.frozen? ⟨w.heap.size,1,none⟩=false∧W1.frozen? ⟨w.heap.size,2,none⟩=false);obtain⟨z0,z1,z2⟩:=(⟨HB.out.cell 0,HB.out.cell 1,HB.out.cell 2⟩:W1.cell? ⟨w.heap.size,0,none⟩=some (.string ⟨#[]⟩)∧W1.cell? ⟨w.heap.size,1,none⟩=some (.int .i64 0)∧W1.cell? ⟨w.heap.size,2,none⟩=some (.string ⟨#[]⟩));by_cases hlt:k<l.length
  ·obtain⟨ad,rfl,hab,s0,s1,s2⟩:=z4h.at_ (Row.below HL.out HA.out) hlt;have HNX:Hid (l[k].path≠s→∀ j (hj:j<l.length),j<k+1→l[j].path≠s):=hd_ fun h j hj hjk=>by
    by_cases e:j=k
    ·subst e;exact h
    ·exact HI.out j hj (by omega)
   have HYE:=hd_ (zo3 (k:=Hav.path) (p:=s) hlt HI.out);generalize l[k]=x at s0 s1 s2 HNX HYE;have HLT:=hd_ hlt;by_cases h1:x.path=s
   ·have q1:(x.path.toList == s.toList)=true:=by rw[z42,decide_eq_true h1]
    have HR:=hd_ (HYE.out h1);clear h1;go_wp2_with fail;have hE:=((HB.out.set_ 0 (.string x.path)).set_ 1 (.int .i64 x.num)).set_ 2 (.string x.loc);have hb:=((HA.out.setCell (p:=⟨w.heap.size,0,none⟩) (by simp) (.string x.path)).setCell (p:=⟨w.heap.size,1,none⟩) (by simp) (.int .i64 x.num)).setCell (p:=⟨w.heap.size,2,none⟩) (by simp) (.string x.loc)
    generalize ((W1.setCell ⟨w.heap.size,0,none⟩ (.string x.path)).setCell ⟨w.heap.size,1,none⟩ (.int .i64 x.num)).setCell ⟨w.heap.size,2,none⟩ (.string x.loc)=W8 at hE hb ⊢;have e0:=hE.cell 0;have e1:=hE.cell 1;have e2:=hE.cell 2;exact bodyPost_ret (v:=.tuple #[.agg #[.string x.path,.int .i64 x.num,.string x.loc],.bool true]) (by simp [results,results94,go_sem,e0,e1,e2]) rfl ⟨by rw[HR.out];rfl,hb⟩
   ·have q1:(x.path.toList == s.toList)=false:=by rw[z42,decide_eq_false h1]
    have HN:=hd_ (HNX.out h1);clear h1;go_wp2_with fail;go_round
    case rel=>exact⟨k+1,by go_num,by have:=HLT.out;omega,HN⟩
    case measure=>have:=HLT.out;simp [intOf];omega
  ·have hke:k=l.length:=by omega
   subst hke;have HR:=hd_ (zo4 (k:=Hav.path) (p:=s) (fun j hj=>HI.out j hj hj));go_wp2_with fail;have hE:=((HB.out.set_ 0 (.string ⟨#[]⟩)).set_ 1 (.int .i64 0)).set_ 2 (.string ⟨#[]⟩);have hb:=((HA.out.setCell (p:=⟨w.heap.size,0,none⟩) (by simp) (.string ⟨#[]⟩)).setCell (p:=⟨w.heap.size,1,none⟩) (by simp) (.int .i64 0)).setCell (p:=⟨w.heap.size,2,none⟩) (by simp) (.string ⟨#[]⟩)
   generalize ((W1.setCell ⟨w.heap.size,0,none⟩ (.string ⟨#[]⟩)).setCell ⟨w.heap.size,1,none⟩ (.int .i64 0)).setCell ⟨w.heap.size,2,none⟩ (.string ⟨#[]⟩)=W8 at hE hb ⊢;have e0:=hE.cell 0;have e1:=hE.cell 1;have e2:=hE.cell 2;exact bodyPost_ret (v:=.tuple #[.agg #[.string ⟨#[]⟩,.int .i64 0,.string ⟨#[]⟩],.bool false]) (by simp [results,results94,go_sem,e0,e1,e2]) rfl ⟨by rw[HR.out];rfl,hb⟩
theorem zo6 (l:List Hav)(v:Value)(s:ByteArray)(w:World)(hL:z4h w v l)(hl:l.length≤1000000):
  Calls prog 59 #[v,.string s] w (HgPost w (z64 Hav.loc l s)):=by
 obtain⟨A,c,rfl,-⟩:=id hL;have hA:zB w (w.alloc (.cells #[.string ⟨#[]⟩,.int .i64 0,.string ⟨#[]⟩] 96)):=(Below.refl _ _).alloc (Nat.le_refl _) _;have HB:Hid (Blk _ _ 96 [.string ⟨#[]⟩,.int .i64 0,.string ⟨#[]⟩]):=hd_ (z0l w _ _);have HA:=hd_ hA;have HL:=hd_ hL;clear hL hA;go_enter func59,ntmps59;go_upto_region 1 with fail;generalize w.alloc (.cells #[.string ⟨#[]⟩,.int .i64 0,.string ⟨#[]⟩] 96)=W1 at HA HB ⊢;go_wp2_with fail;go_loop [6] (fun i=>∃ k:Nat,i=.int .i64 k∧k≤l.length∧Hid (∀ j (hj:j<l.length),j<k→l[j].loc≠s)) (fun i=>l.length - (intOf i).toNat)
 case atStart=>exact⟨0,rfl,Nat.zero_le _,hd_ (fun j _ h=>by omega)⟩
 case round =>
  obtain⟨k,rfl,hk,HI⟩:=hrel;obtain⟨f0,f1,f2⟩:=(⟨HB.out.frozen 0,HB.out.frozen 1,HB.out.frozen 2⟩:W1.frozen? ⟨w.heap.size,0,none⟩=false∧W1.frozen? ⟨w.heap.size,1,none⟩=false∧W1.frozen? ⟨w.heap.size,2,none⟩=false);obtain⟨z0,z1,z2⟩:=(⟨HB.out.cell 0,HB.out.cell 1,HB.out.cell 2⟩:W1.cell? ⟨w.heap.size,0,none⟩=some (.string ⟨#[]⟩)∧W1.cell? ⟨w.heap.size,1,none⟩=some (.int .i64 0)∧W1.cell? ⟨w.heap.size,2,none⟩=some (.string ⟨#[]⟩));by_cases hlt:k<l.length
  ·obtain⟨ad,rfl,hab,s0,s1,s2⟩:=z4h.at_ (Row.below HL.out HA.out) hlt;have HNX:Hid (l[k].loc≠s→∀ j (hj:j<l.length),j<k+1→l[j].loc≠s):=hd_ fun h j hj hjk=>by
    by_cases e:j=k
    ·subst e;exact h
    ·exact HI.out j hj (by omega)
   have HYE:=hd_ (zo3 (k:=Hav.loc) (p:=s) hlt HI.out);generalize l[k]=x at s0 s1 s2 HNX HYE;have HLT:=hd_ hlt;by_cases h1:x.loc=s
   ·have q1:(x.loc.toList == s.toList)=true:=by rw[z42,decide_eq_true h1]
    have HR:=hd_ (HYE.out h1);clear h1;go_wp2_with fail;have hE:=((HB.out.set_ 0 (.string x.path)).set_ 1 (.int .i64 x.num)).set_ 2 (.string x.loc);have hb:=((HA.out.setCell (p:=⟨w.heap.size,0,none⟩) (by simp) (.string x.path)).setCell (p:=⟨w.heap.size,1,none⟩) (by simp) (.int .i64 x.num)).setCell (p:=⟨w.heap.size,2,none⟩) (by simp) (.string x.loc)
    generalize ((W1.setCell ⟨w.heap.size,0,none⟩ (.string x.path)).setCell ⟨w.heap.size,1,none⟩ (.int .i64 x.num)).setCell ⟨w.heap.size,2,none⟩ (.string x.loc)=W8 at hE hb ⊢;have e0:=hE.cell 0;have e1:=hE.cell 1;have e2:=hE.cell 2;exact bodyPost_ret (v:=.tuple #[.agg #[.string x.path,.int .i64 x.num,.string x.loc],.bool true]) (by simp [results,results59,go_sem,e0,e1,e2]) rfl ⟨by rw[HR.out];rfl,hb⟩
   ·have q1:(x.loc.toList == s.toList)=false:=by rw[z42,decide_eq_false h1]
    have HN:=hd_ (HNX.out h1);clear h1;go_wp2_with fail;go_round
    case rel=>exact⟨k+1,by go_num,by have:=HLT.out;omega,HN⟩
    case measure=>have:=HLT.out;simp [intOf];omega
  ·have hke:k=l.length:=by omega
   subst hke;have HR:=hd_ (zo4 (k:=Hav.loc) (p:=s) (fun j hj=>HI.out j hj hj));go_wp2_with fail;have hE:=((HB.out.set_ 0 (.string ⟨#[]⟩)).set_ 1 (.int .i64 0)).set_ 2 (.string ⟨#[]⟩);have hb:=((HA.out.setCell (p:=⟨w.heap.size,0,none⟩) (by simp) (.string ⟨#[]⟩)).setCell (p:=⟨w.heap.size,1,none⟩) (by simp) (.int .i64 0)).setCell (p:=⟨w.heap.size,2,none⟩) (by simp) (.string ⟨#[]⟩)
   generalize ((W1.setCell ⟨w.heap.size,0,none⟩ (.string ⟨#[]⟩)).setCell ⟨w.heap.size,1,none⟩ (.int .i64 0)).setCell ⟨w.heap.size,2,none⟩ (.string ⟨#[]⟩)=W8 at hE hb ⊢;have e0:=hE.cell 0;have e1:=hE.cell 1;have e2:=hE.cell 2;exact bodyPost_ret (v:=.tuple #[.agg #[.string ⟨#[]⟩,.int .i64 0,.string ⟨#[]⟩],.bool false]) (by simp [results,results59,go_sem,e0,e1,e2]) rfl ⟨by rw[HR.out];rfl,hb⟩
