/- A part. -/
import Derived.Test.YtlnjaagijaadmaaGreatDoorMvw29
import Derived.ProofKit
import Derived.OpenShut
import Derived.ShutString
import Derived.ChangeOld
import Derived.Deep.Slices
import Derived.Deep.Fields
import Derived.ChangeSlices
set_option linter.unusedVariables false
set_option linter.unusedSimpArgs false
set_option maxHeartbeats 16000000
set_option maxRecDepth 100000
namespace Go.Proofs.YtlnjaagijaadmaaGreatDoor
open Go.Proofs.Tryz
open Go.RowKit
section
variable {u0 u1 u2 u3 u4 u5 u6 u7 u8 u9 gF gG gH gI gJ gK gL gM gN gO gP gQ gR gT gV gW gX gY gZ i6 i7 i8 ia ib ic ie ig ii ij ik il im io ip iq ir iu iv iw iy iz iA iB iC iD iE iF iG iH iI iJ iK iL iM iN iO iP iQ iR iS iT iU iV iW iX iY iZ j0 j1 j2 j9 jb jd je jf jg jh ji jj jk jl jm jn jo jp jq jr js jt : zV}
theorem zel (b:Bool)(v:zV)(A:zP)(n c:Nat)(hv:v=zL A n c)(w:zW):Calls prog 37 #[.bool b,v] w fun e w'=>e=.returned (.agg #[v,.bool b])/\zB w w':=by
 subst hv;have hZ:=z0l w [zL none 0 0,.bool false] 56;have hA:zB w (w.alloc (zC #[zL none 0 0,.bool false] 56)):=zR;go_enter func37,ntmps37;go_upto_region 1 with fail;generalize w.alloc (zC #[zL none 0 0,.bool false] 56)=W1 at hZ hA |-;obtain⟨z0,z1⟩:=(⟨hZ.cell 0,hZ.cell 1⟩:W1.cell? ⟨w.heap.size,0,none⟩=some (.slice none 0 0)/\W1.cell? ⟨w.heap.size,1,none⟩=some (.bool false));obtain⟨y0,y1⟩:=(⟨hZ.frozen 0,hZ.frozen 1⟩:W1.frozen? ⟨w.heap.size,0,none⟩=false/\W1.frozen? ⟨w.heap.size,1,none⟩=false);go_wp2_with fail;have hE:=(hZ.set_ 0 (zL A n c)).set_ 1 (.bool b);have hb:=(hA.setCell (p:=⟨w.heap.size,0,none⟩) (by simp) (zL A n c)).setCell (p:=⟨w.heap.size,1,none⟩) (by simp) (.bool b)
 generalize (W1.setCell ⟨w.heap.size,0,none⟩ (zL A n c)).setCell ⟨w.heap.size,1,none⟩ (.bool b)=W3 at hE hb |-;have e0:=hE.cell 0;have e1:=hE.cell 1;exact bodyPost_ret (v:=.agg #[zL A n c,.bool b]) (by simp [results,results37,go_sem,e0,e1]) rfl ⟨rfl,hb⟩
theorem zem {wp w1:zW}{o:Obj}(hb:Below (wp.alloc o).heap.size (wp.alloc o) w1):zB wp w1:=z0r (zR) hb
theorem zen {wp w1:zW}{cs:List zV}{t:TypeId}(hb:Below (wp.alloc (.cells cs.toArray t)).heap.size (wp.alloc (.cells cs.toArray t)) w1):Blk w1 wp.heap.size t cs:=(z0l wp cs t).kw hb (z0l wp cs t).lt
theorem zeo {w:zW}{g:Nat}{l:List zA}{b:Bool}{n:Nat}(h:Blk w g 9 (l.map .string))(hn:n=l.length)(hl:l.length<=1000)(hs:∀ x∈l,x.size<=30000000):zbx w (zL (some ⟨g,0,none⟩) n n) ⟨l,b⟩:=by
 subst hn;exact⟨h.row (size:=1) (n:=l.length) (by rw[Zk,Nat.mul_one]) (by unfold maxLen;omega),hs⟩
theorem zep (w:zW):HolesIn w (zL none 0 0) []:=⟨Row.nil_ w 2,fun q h=>by cases h⟩
theorem zeq {w1 w2:zW}{n:Nat}{es:List zdk}{cs:List zV}(hb:zB w1 w2)(hcs:cs=es.flatMap zdk.cells)(hn:n=es.length)(hl:es.length<=1000)
  (he:∀ x∈es,zdl w2 x):zdo (w2.alloc (.cells cs.toArray 59)) (zL (some ⟨w2.heap.size,0,none⟩) n n) es/\zB w1 (w2.alloc (.cells cs.toArray 59)):=by
 subst hcs hn;have ha:zB w2 (w2.alloc (.cells (es.flatMap zdk.cells).toArray 59)):=zR;refine⟨⟨(z0l w2 (es.flatMap zdk.cells) 59).row (size:=5) (n:=es.length) ?_ (by unfold maxLen;omega),fun x hx=>(he x hx).kw ha⟩,z0r hb ha⟩
 clear he ha hl hb;induction es with
 | nil=>rfl
 | cons x es ih=>rw[ZG,Zc,ih,Zz];show 5+_=_;omega
theorem mpR3 (ops:Array Oper)(hops:Tryz.f11.body.bind (z0w 3)=some ops)(Q:Exit->Act->zW->Prop)(w1:zW)
  (hQ:∀(t7 t8 t9 ei el em:zV) (es:List zdk) (A':zP) (n c:Nat) (w':zW),Hid (es.map zdk.pl=zeb 0/\zdo w' (zL A' n c) es/\zB w1 w')->Q .normal ⟨#[u0,u1,zL A' n c,u3,u4,u5,u6,t7,t8,t9,ei,el,em,gI,gJ,gK,gL,gM,gN,gO,gP,gQ,gR,gT,gV,gW,gX,gY,gZ,i6,i7,i8,ia,ib,ic,ie,ig,ii,ij,ik,il,im,io,ip,iq,ir,iu,iv,iw,iy,iz,iA,iB,iC,iD,iE,iF,iG,iH,iI,iJ,iK,iL,iM,iN,iO,iP,iQ,iR,iS,iT,iU,iV,iW,iX,iY,iZ,j0,j1,j2,j9,jb,jd,je,jf,jg,jh,ji,jj,jk,jl,jm,jn,jo,jp,jq,jr,js,jt],[]⟩ w'):
  (Code.region 3 ops false).wp prog Q ⟨#[u0,u1,u2,u3,u4,u5,u6,u7,u8,u9,gF,gG,gH,gI,gJ,gK,gL,gM,gN,gO,gP,gQ,gR,gT,gV,gW,gX,gY,gZ,i6,i7,i8,ia,ib,ic,ie,ig,ii,ij,ik,il,im,io,ip,iq,ir,iu,iv,iw,iy,iz,iA,iB,iC,iD,iE,iF,iG,iH,iI,iJ,iK,iL,iM,iN,iO,iP,iQ,iR,iS,iT,iU,iV,iW,iX,iY,iZ,j0,j1,j2,j9,jb,jd,je,jf,jg,jh,ji,jj,jk,jl,jm,jn,jo,jp,jq,jr,js,jt],[]⟩ w1:=by
 simp only[Tryz.f11,Zp,z0w] at hops
 simp at hops
 subst hops;have HQ:=hd_ hQ;clear hQ;have HB0:Hid (zB w1 w1):=hd_ (Zb _ _);go_wp2_with fail;refine (zel _ _ _ _ _ rfl _).mono ?_;rintro e w2 ⟨rfl,hb⟩;dsimp only;have HP1:=hd_ (zen (cs:=[zS ⟨#[100]⟩]) hb);have HB1:=hd_ (z0r HB0 (zem hb));clear hb;go_wp2_with fail;refine (zel _ _ _ _ _ rfl _).mono ?_;rintro e w3 ⟨rfl,hb⟩;dsimp only;have HP2:=hd_ (zen (cs:=[zS ⟨#[99]⟩]) hb);have HP1:=hd_ (HP1.kw (zem hb) HP1.lt);have HB2:=hd_ (z0r HB1 (zem hb));clear hb;go_wp2_with fail;have H:=zeq (w2:=w3) (n:=1) (cs:=[zL (some ⟨w1.heap.size,0,none⟩) 1 1,.bool true,zL (some ⟨w2.heap.size,0,none⟩) 1 1,.bool true,zL none 0 0]) (es:=([⟨(⟨[ze9 100],true⟩,some ⟨w1.heap.size,0,none⟩,1),(⟨[ze9 99],true⟩,some ⟨w2.heap.size,0,none⟩,1),zL none 0 0,[]⟩]:List zdk)) HB2.out rfl rfl (by show 1<=1000;omega) (by
  intro x hx;simp only[Zn,ZO,or_false] at hx
  subst hx;exact⟨zeo (l:=[ze9 100]) HP1 rfl (by decide) (by decide),zeo (l:=[ze9 99]) HP2 rfl (by decide) (by decide),zep _,Zg _⟩)
 exact HQ _ _ _ _ _ _ _ _ _ _ _ (hd_ ⟨rfl,H.1,H.2⟩)
theorem mpR5 (ops:Array Oper)(hops:Tryz.f11.body.bind (z0w 5)=some ops)(Q:Exit->Act->zW->Prop)(w1:zW)
  (hQ:∀(en eo et eu ew eA eB eC eD:zV) (es:List zdk) (A':zP) (n c:Nat) (w':zW),Hid (es.map zdk.pl=zeb 1/\zdo w' (zL A' n c) es/\zB w1 w')->Q .normal ⟨#[u0,u1,zL A' n c,u3,u4,u5,u6,u7,u8,u9,gF,gG,gH,gI,gJ,en,eo,et,eu,ew,eA,eB,eC,eD,gV,gW,gX,gY,gZ,i6,i7,i8,ia,ib,ic,ie,ig,ii,ij,ik,il,im,io,ip,iq,ir,iu,iv,iw,iy,iz,iA,iB,iC,iD,iE,iF,iG,iH,iI,iJ,iK,iL,iM,iN,iO,iP,iQ,iR,iS,iT,iU,iV,iW,iX,iY,iZ,j0,j1,j2,j9,jb,jd,je,jf,jg,jh,ji,jj,jk,jl,jm,jn,jo,jp,jq,jr,js,jt],[]⟩ w'):
  (Code.region 5 ops false).wp prog Q ⟨#[u0,u1,u2,u3,u4,u5,u6,u7,u8,u9,gF,gG,gH,gI,gJ,gK,gL,gM,gN,gO,gP,gQ,gR,gT,gV,gW,gX,gY,gZ,i6,i7,i8,ia,ib,ic,ie,ig,ii,ij,ik,il,im,io,ip,iq,ir,iu,iv,iw,iy,iz,iA,iB,iC,iD,iE,iF,iG,iH,iI,iJ,iK,iL,iM,iN,iO,iP,iQ,iR,iS,iT,iU,iV,iW,iX,iY,iZ,j0,j1,j2,j9,jb,jd,je,jf,jg,jh,ji,jj,jk,jl,jm,jn,jo,jp,jq,jr,js,jt],[]⟩ w1:=by
 simp only[Tryz.f11,Zp,z0w] at hops
 simp at hops
 subst hops;have HQ:=hd_ hQ;clear hQ;have HB0:Hid (zB w1 w1):=hd_ (Zb _ _);go_wp2_with fail;refine (zel _ _ _ _ _ rfl _).mono ?_;rintro e w2 ⟨rfl,hb⟩;dsimp only;have HP1:=hd_ (zen (cs:=[zS ⟨#[100]⟩]) hb);have HB1:=hd_ (z0r HB0 (zem hb));clear hb;go_wp2_with fail;refine (zel _ _ _ _ _ rfl _).mono ?_;rintro e w3 ⟨rfl,hb⟩;dsimp only;have HP2:=hd_ (zen (cs:=[zS ⟨#[99]⟩]) hb);have HP1:=hd_ (HP1.kw (zem hb) HP1.lt);have HB2:=hd_ (z0r HB1 (zem hb));clear hb;go_wp2_with fail;refine (zel _ _ _ _ _ rfl _).mono ?_;rintro e w4 ⟨rfl,hb⟩;dsimp only;have HP3:=hd_ (zen (cs:=[zS ⟨#[100]⟩,zS ⟨#[120]⟩]) hb);have HP1:=hd_ (HP1.kw (zem hb) HP1.lt);have HP2:=hd_ (HP2.kw (zem hb) HP2.lt);have HB3:=hd_ (z0r HB2 (zem hb));clear hb;go_wp2_with fail;have HB9:Hid (zB w1 (w4.alloc (zC #[zL (some ⟨w3.heap.size,0,none⟩) 2 2,.bool true] 56))):=hd_ (z0r HB3 (zR));have HH9:=hd_ (z0l w4 [zL (some ⟨w3.heap.size,0,none⟩) 2 2,.bool true] 56);have HP1:=hd_ (HP1.alloc (zC #[zL (some ⟨w3.heap.size,0,none⟩) 2 2,.bool true] 56));have HP2:=hd_ (HP2.alloc (zC #[zL (some ⟨w3.heap.size,0,none⟩) 2 2,.bool true] 56));have HP3:=hd_ (HP3.alloc (zC #[zL (some ⟨w3.heap.size,0,none⟩) 2 2,.bool true] 56));have H:=zeq (w2:=(w4.alloc (zC #[zL (some ⟨w3.heap.size,0,none⟩) 2 2,.bool true] 56))) (n:=1) (cs:=[zL (some ⟨w1.heap.size,0,none⟩) 1 1,.bool true,zL (some ⟨w2.heap.size,0,none⟩) 1 1,.bool true,zL (some ⟨w4.heap.size,0,none⟩) 1 1]) (es:=([⟨(⟨[ze9 100],true⟩,some ⟨w1.heap.size,0,none⟩,1),(⟨[ze9 99],true⟩,some ⟨w2.heap.size,0,none⟩,1),zL (some ⟨w4.heap.size,0,none⟩) 1 1,[(⟨[ze9 100,ze9 120],true⟩,some ⟨w3.heap.size,0,none⟩,2)]⟩]:List zdk)) HB9.out rfl rfl (by show 1<=1000;omega) (by
  intro x hx;simp only[Zn,ZO,or_false] at hx
  subst hx;exact⟨zeo (l:=[ze9 100]) HP1 rfl (by decide) (by decide),zeo (l:=[ze9 99]) HP2 rfl (by decide) (by decide),⟨HH9.row (size:=2) (n:=1) rfl (by decide),fun q hq=>by rw[Zm] at hq;subst hq;exact zeo (l:=[ze9 100,ze9 120]) HP3 rfl (by decide) (by decide)⟩,(by show 1<=1000000;omega)⟩)
 simp only[Zl] at H
 exact HQ _ _ _ _ _ _ _ _ _ _ _ _ _ _ (hd_ ⟨rfl,H.1,H.2⟩)
theorem mpR7 (ops:Array Oper)(hops:Tryz.f11.body.bind (z0w 7)=some ops)(Q:Exit->Act->zW->Prop)(w1:zW)
  (hQ:∀(eG eH eI eJ eK eL eM eN eO eP eQ:zV) (es:List zdk) (A':zP) (n c:Nat) (w':zW),Hid (es.map zdk.pl=zeb 2/\zdo w' (zL A' n c) es/\zB w1 w')->Q .normal ⟨#[u0,u1,zL A' n c,u3,u4,u5,u6,u7,u8,u9,gF,gG,gH,gI,gJ,gK,gL,gM,gN,gO,gP,gQ,gR,gT,gV,gW,eG,eH,eI,eJ,eK,eL,eM,eN,eO,eP,eQ,ii,ij,ik,il,im,io,ip,iq,ir,iu,iv,iw,iy,iz,iA,iB,iC,iD,iE,iF,iG,iH,iI,iJ,iK,iL,iM,iN,iO,iP,iQ,iR,iS,iT,iU,iV,iW,iX,iY,iZ,j0,j1,j2,j9,jb,jd,je,jf,jg,jh,ji,jj,jk,jl,jm,jn,jo,jp,jq,jr,js,jt],[]⟩ w'):
  (Code.region 7 ops false).wp prog Q ⟨#[u0,u1,u2,u3,u4,u5,u6,u7,u8,u9,gF,gG,gH,gI,gJ,gK,gL,gM,gN,gO,gP,gQ,gR,gT,gV,gW,gX,gY,gZ,i6,i7,i8,ia,ib,ic,ie,ig,ii,ij,ik,il,im,io,ip,iq,ir,iu,iv,iw,iy,iz,iA,iB,iC,iD,iE,iF,iG,iH,iI,iJ,iK,iL,iM,iN,iO,iP,iQ,iR,iS,iT,iU,iV,iW,iX,iY,iZ,j0,j1,j2,j9,jb,jd,je,jf,jg,jh,ji,jj,jk,jl,jm,jn,jo,jp,jq,jr,js,jt],[]⟩ w1:=by
 simp only[Tryz.f11,Zp,z0w] at hops
 simp at hops
 subst hops;have HQ:=hd_ hQ;clear hQ;have HB0:Hid (zB w1 w1):=hd_ (Zb _ _);go_wp2_with fail;refine (zel _ _ _ _ _ rfl _).mono ?_;rintro e w2 ⟨rfl,hb⟩;dsimp only;have HP1:=hd_ (zen (cs:=[zS ⟨#[100]⟩,zS ⟨#[120]⟩]) hb);have HB1:=hd_ (z0r HB0 (zem hb));clear hb;go_wp2_with fail;refine (zel _ _ _ _ _ rfl _).mono ?_;rintro e w3 ⟨rfl,hb⟩;dsimp only;have HP2:=hd_ (zen (cs:=[zS ⟨#[99]⟩]) hb);have HP1:=hd_ (HP1.kw (zem hb) HP1.lt);have HB2:=hd_ (z0r HB1 (zem hb));clear hb;go_wp2_with fail;refine (zel _ _ _ _ _ rfl _).mono ?_;rintro e w4 ⟨rfl,hb⟩;dsimp only;have HP3:=hd_ (zen (cs:=[zS ⟨#[101]⟩]) hb);have HP1:=hd_ (HP1.kw (zem hb) HP1.lt);have HP2:=hd_ (HP2.kw (zem hb) HP2.lt);have HB3:=hd_ (z0r HB2 (zem hb));clear hb;go_wp2_with fail;refine (zel _ _ _ _ _ rfl _).mono ?_;rintro e w5 ⟨rfl,hb⟩;dsimp only;have HP4:=hd_ (zen (cs:=[zS ⟨#[119]⟩]) hb);have HP1:=hd_ (HP1.kw (zem hb) HP1.lt);have HP2:=hd_ (HP2.kw (zem hb) HP2.lt);have HP3:=hd_ (HP3.kw (zem hb) HP3.lt);have HB4:=hd_ (z0r HB3 (zem hb));clear hb;go_wp2_with fail;have H:=zeq (w2:=w5) (n:=2) (cs:=[zL (some ⟨w1.heap.size,0,none⟩) 2 2,.bool true,zL (some ⟨w2.heap.size,0,none⟩) 1 1,.bool true,zL none 0 0,zL (some ⟨w3.heap.size,0,none⟩) 1 1,.bool true,zL (some ⟨w4.heap.size,0,none⟩) 1 1,.bool true,zL none 0 0]) (es:=([⟨(⟨[ze9 100,ze9 120],true⟩,some ⟨w1.heap.size,0,none⟩,2),(⟨[ze9 99],true⟩,some ⟨w2.heap.size,0,none⟩,1),zL none 0 0,[]⟩,⟨(⟨[ze9 101],true⟩,some ⟨w3.heap.size,0,none⟩,1),(⟨[ze9 119],true⟩,some ⟨w4.heap.size,0,none⟩,1),zL none 0 0,[]⟩]:List zdk)) HB4.out rfl rfl (by show 2<=1000;omega) (by
  intro x hx;simp only[Zn,ZO,or_false] at hx
  rcases hx with rfl | rfl
  ·exact⟨zeo (l:=[ze9 100,ze9 120]) HP1 rfl (by decide) (by decide),zeo (l:=[ze9 99]) HP2 rfl (by decide) (by decide),zep _,Zg _⟩
  ·exact⟨zeo (l:=[ze9 101]) HP3 rfl (by decide) (by decide),zeo (l:=[ze9 119]) HP4 rfl (by decide) (by decide),zep _,Zg _⟩)
 exact HQ _ _ _ _ _ _ _ _ _ _ _ _ _ _ _ _ (hd_ ⟨rfl,H.1,H.2⟩)
theorem mpR9 (ops:Array Oper)(hops:Tryz.f11.body.bind (z0w 9)=some ops)(Q:Exit->Act->zW->Prop)(w1:zW)
  (hQ:∀(eT eU eV eW eX eY eZ fa fd fe ff fg fh fj fk fm:zV) (es:List zdk) (A':zP) (n c:Nat) (w':zW),Hid (es.map zdk.pl=zeb 3/\zdo w' (zL A' n c) es/\zB w1 w')->Q .normal ⟨#[u0,u1,zL A' n c,u3,u4,u5,u6,u7,u8,u9,gF,gG,gH,gI,gJ,gK,gL,gM,gN,gO,gP,gQ,gR,gT,gV,gW,gX,gY,gZ,i6,i7,i8,ia,ib,ic,ie,ig,ii,ij,eT,eU,eV,eW,eX,eY,eZ,fa,fd,fe,ff,fg,fh,fj,fk,fm,iE,iF,iG,iH,iI,iJ,iK,iL,iM,iN,iO,iP,iQ,iR,iS,iT,iU,iV,iW,iX,iY,iZ,j0,j1,j2,j9,jb,jd,je,jf,jg,jh,ji,jj,jk,jl,jm,jn,jo,jp,jq,jr,js,jt],[]⟩ w'):
  (Code.region 9 ops false).wp prog Q ⟨#[u0,u1,u2,u3,u4,u5,u6,u7,u8,u9,gF,gG,gH,gI,gJ,gK,gL,gM,gN,gO,gP,gQ,gR,gT,gV,gW,gX,gY,gZ,i6,i7,i8,ia,ib,ic,ie,ig,ii,ij,ik,il,im,io,ip,iq,ir,iu,iv,iw,iy,iz,iA,iB,iC,iD,iE,iF,iG,iH,iI,iJ,iK,iL,iM,iN,iO,iP,iQ,iR,iS,iT,iU,iV,iW,iX,iY,iZ,j0,j1,j2,j9,jb,jd,je,jf,jg,jh,ji,jj,jk,jl,jm,jn,jo,jp,jq,jr,js,jt],[]⟩ w1:=by
 simp only[Tryz.f11,Zp,z0w] at hops
 simp at hops
 subst hops;have HQ:=hd_ hQ;clear hQ;have HB0:Hid (zB w1 w1):=hd_ (Zb _ _);go_wp2_with fail;refine (zel _ _ _ _ _ rfl _).mono ?_;rintro e w2 ⟨rfl,hb⟩;dsimp only;have HP1:=hd_ (zen (cs:=[zS ⟨#[100]⟩,zS ⟨#[97]⟩]) hb);have HB1:=hd_ (z0r HB0 (zem hb));clear hb;go_wp2_with fail;refine (zel _ _ _ _ _ rfl _).mono ?_;rintro e w3 ⟨rfl,hb⟩;dsimp only;have HP2:=hd_ (zen (cs:=[zS ⟨#[99]⟩,zS ⟨#[98]⟩]) hb);have HP1:=hd_ (HP1.kw (zem hb) HP1.lt);have HB2:=hd_ (z0r HB1 (zem hb));clear hb;go_wp2_with fail;refine (zel _ _ _ _ _ rfl _).mono ?_;rintro e w4 ⟨rfl,hb⟩;dsimp only;have HP3:=hd_ (zen (cs:=[zS ⟨#[100]⟩,zS ⟨#[98]⟩]) hb);have HP1:=hd_ (HP1.kw (zem hb) HP1.lt);have HP2:=hd_ (HP2.kw (zem hb) HP2.lt);have HB3:=hd_ (z0r HB2 (zem hb));clear hb;go_wp2_with fail;refine (zel _ _ _ _ _ rfl _).mono ?_;rintro e w5 ⟨rfl,hb⟩;dsimp only;have HP4:=hd_ (zen (cs:=[zS ⟨#[99]⟩,zS ⟨#[97]⟩]) hb);have HP1:=hd_ (HP1.kw (zem hb) HP1.lt);have HP2:=hd_ (HP2.kw (zem hb) HP2.lt);have HP3:=hd_ (HP3.kw (zem hb) HP3.lt);have HB4:=hd_ (z0r HB3 (zem hb));clear hb;go_wp2_with fail;refine (zel _ _ _ _ _ rfl _).mono ?_;rintro e w6 ⟨rfl,hb⟩;dsimp only;have HP5:=hd_ (zen (cs:=[zS ⟨#[100]⟩,zS ⟨#[120]⟩]) hb);have HP1:=hd_ (HP1.kw (zem hb) HP1.lt);have HP2:=hd_ (HP2.kw (zem hb) HP2.lt);have HP3:=hd_ (HP3.kw (zem hb) HP3.lt);have HP4:=hd_ (HP4.kw (zem hb) HP4.lt);have HB5:=hd_ (z0r HB4 (zem hb));clear hb;go_wp2_with fail;refine (zel _ _ _ _ _ rfl _).mono ?_;rintro e w7 ⟨rfl,hb⟩;dsimp only;have HP6:=hd_ (zen (cs:=[zS ⟨#[99]⟩,zS ⟨#[120]⟩]) hb);have HP1:=hd_ (HP1.kw (zem hb) HP1.lt);have HP2:=hd_ (HP2.kw (zem hb) HP2.lt);have HP3:=hd_ (HP3.kw (zem hb) HP3.lt);have HP4:=hd_ (HP4.kw (zem hb) HP4.lt);have HP5:=hd_ (HP5.kw (zem hb) HP5.lt);have HB6:=hd_ (z0r HB5 (zem hb))
 clear hb;go_wp2_with fail;have H:=zeq (w2:=w7) (n:=3) (cs:=[zL (some ⟨w1.heap.size,0,none⟩) 2 2,.bool false,zL (some ⟨w2.heap.size,0,none⟩) 2 2,.bool false,zL none 0 0,zL (some ⟨w3.heap.size,0,none⟩) 2 2,.bool false,zL (some ⟨w4.heap.size,0,none⟩) 2 2,.bool false,zL none 0 0,zL (some ⟨w5.heap.size,0,none⟩) 2 2,.bool true,zL (some ⟨w6.heap.size,0,none⟩) 2 2,.bool true,zL none 0 0]) (es:=([⟨(⟨[ze9 100,ze9 97],false⟩,some ⟨w1.heap.size,0,none⟩,2),(⟨[ze9 99,ze9 98],false⟩,some ⟨w2.heap.size,0,none⟩,2),zL none 0 0,[]⟩,⟨(⟨[ze9 100,ze9 98],false⟩,some ⟨w3.heap.size,0,none⟩,2),(⟨[ze9 99,ze9 97],false⟩,some ⟨w4.heap.size,0,none⟩,2),zL none 0 0,[]⟩,⟨(⟨[ze9 100,ze9 120],true⟩,some ⟨w5.heap.size,0,none⟩,2),(⟨[ze9 99,ze9 120],true⟩,some ⟨w6.heap.size,0,none⟩,2),zL none 0 0,[]⟩]:List zdk)) HB6.out rfl rfl (by show 3<=1000;omega) (by
  intro x hx;simp only[Zn,ZO,or_false] at hx
  rcases hx with rfl | rfl | rfl
  ·exact⟨zeo (l:=[ze9 100,ze9 97]) HP1 rfl (by decide) (by decide),zeo (l:=[ze9 99,ze9 98]) HP2 rfl (by decide) (by decide),zep _,Zg _⟩
  ·exact⟨zeo (l:=[ze9 100,ze9 98]) HP3 rfl (by decide) (by decide),zeo (l:=[ze9 99,ze9 97]) HP4 rfl (by decide) (by decide),zep _,Zg _⟩
  ·exact⟨zeo (l:=[ze9 100,ze9 120]) HP5 rfl (by decide) (by decide),zeo (l:=[ze9 99,ze9 120]) HP6 rfl (by decide) (by decide),zep _,Zg _⟩)
 exact HQ _ _ _ _ _ _ _ _ _ _ _ _ _ _ _ _ _ _ _ _ _ (hd_ ⟨rfl,H.1,H.2⟩)
theorem mpR11 (ops:Array Oper)(hops:Tryz.f11.body.bind (z0w 11)=some ops)(Q:Exit->Act->zW->Prop)(w1:zW)
  (hQ:∀(ft fu fv fw fx fy fA fB fC fD fE fF fG fH fI fJ:zV) (es:List zdk) (A':zP) (n c:Nat) (w':zW),Hid (es.map zdk.pl=zeb 4/\zdo w' (zL A' n c) es/\zB w1 w')->Q .normal ⟨#[u0,u1,zL A' n c,u3,u4,u5,u6,u7,u8,u9,gF,gG,gH,gI,gJ,gK,gL,gM,gN,gO,gP,gQ,gR,gT,gV,gW,gX,gY,gZ,i6,i7,i8,ia,ib,ic,ie,ig,ii,ij,ik,il,im,io,ip,iq,ir,iu,iv,iw,iy,iz,iA,iB,iC,iD,iE,iF,ft,fu,fv,fw,fx,fy,fA,fB,fC,fD,fE,fF,fG,fH,fI,fJ,iW,iX,iY,iZ,j0,j1,j2,j9,jb,jd,je,jf,jg,jh,ji,jj,jk,jl,jm,jn,jo,jp,jq,jr,js,jt],[]⟩ w'):
  (Code.region 11 ops false).wp prog Q ⟨#[u0,u1,u2,u3,u4,u5,u6,u7,u8,u9,gF,gG,gH,gI,gJ,gK,gL,gM,gN,gO,gP,gQ,gR,gT,gV,gW,gX,gY,gZ,i6,i7,i8,ia,ib,ic,ie,ig,ii,ij,ik,il,im,io,ip,iq,ir,iu,iv,iw,iy,iz,iA,iB,iC,iD,iE,iF,iG,iH,iI,iJ,iK,iL,iM,iN,iO,iP,iQ,iR,iS,iT,iU,iV,iW,iX,iY,iZ,j0,j1,j2,j9,jb,jd,je,jf,jg,jh,ji,jj,jk,jl,jm,jn,jo,jp,jq,jr,js,jt],[]⟩ w1:=by
 simp only[Tryz.f11,Zp,z0w] at hops
 simp at hops
 subst hops;have HQ:=hd_ hQ;clear hQ;have HB0:Hid (zB w1 w1):=hd_ (Zb _ _);go_wp2_with fail;refine (zel _ _ _ _ _ rfl _).mono ?_;rintro e w2 ⟨rfl,hb⟩;dsimp only;have HP1:=hd_ (zen (cs:=[zS ⟨#[100]⟩,zS ⟨#[97]⟩]) hb);have HB1:=hd_ (z0r HB0 (zem hb));clear hb;go_wp2_with fail;refine (zel _ _ _ _ _ rfl _).mono ?_;rintro e w3 ⟨rfl,hb⟩;dsimp only;have HP2:=hd_ (zen (cs:=[zS ⟨#[99]⟩,zS ⟨#[97]⟩]) hb);have HP1:=hd_ (HP1.kw (zem hb) HP1.lt);have HB2:=hd_ (z0r HB1 (zem hb));clear hb;go_wp2_with fail;refine (zel _ _ _ _ _ rfl _).mono ?_;rintro e w4 ⟨rfl,hb⟩;dsimp only;have HP3:=hd_ (zen (cs:=[zS ⟨#[100]⟩,zS ⟨#[98]⟩]) hb);have HP1:=hd_ (HP1.kw (zem hb) HP1.lt);have HP2:=hd_ (HP2.kw (zem hb) HP2.lt);have HB3:=hd_ (z0r HB2 (zem hb));clear hb;go_wp2_with fail;refine (zel _ _ _ _ _ rfl _).mono ?_;rintro e w5 ⟨rfl,hb⟩;dsimp only;have HP4:=hd_ (zen (cs:=[zS ⟨#[99]⟩,zS ⟨#[98]⟩]) hb);have HP1:=hd_ (HP1.kw (zem hb) HP1.lt);have HP2:=hd_ (HP2.kw (zem hb) HP2.lt);have HP3:=hd_ (HP3.kw (zem hb) HP3.lt);have HB4:=hd_ (z0r HB3 (zem hb));clear hb;go_wp2_with fail;refine (zel _ _ _ _ _ rfl _).mono ?_;rintro e w6 ⟨rfl,hb⟩;dsimp only;have HP5:=hd_ (zen (cs:=[zS ⟨#[101]⟩,zS ⟨#[97]⟩]) hb);have HP1:=hd_ (HP1.kw (zem hb) HP1.lt);have HP2:=hd_ (HP2.kw (zem hb) HP2.lt);have HP3:=hd_ (HP3.kw (zem hb) HP3.lt);have HP4:=hd_ (HP4.kw (zem hb) HP4.lt);have HB5:=hd_ (z0r HB4 (zem hb));clear hb;go_wp2_with fail;refine (zel _ _ _ _ _ rfl _).mono ?_;rintro e w7 ⟨rfl,hb⟩;dsimp only;have HP6:=hd_ (zen (cs:=[zS ⟨#[99]⟩,zS ⟨#[101]⟩]) hb);have HP1:=hd_ (HP1.kw (zem hb) HP1.lt);have HP2:=hd_ (HP2.kw (zem hb) HP2.lt);have HP3:=hd_ (HP3.kw (zem hb) HP3.lt);have HP4:=hd_ (HP4.kw (zem hb) HP4.lt);have HP5:=hd_ (HP5.kw (zem hb) HP5.lt);have HB6:=hd_ (z0r HB5 (zem hb))
 clear hb;go_wp2_with fail;have H:=zeq (w2:=w7) (n:=3) (cs:=[zL (some ⟨w1.heap.size,0,none⟩) 2 2,.bool false,zL (some ⟨w2.heap.size,0,none⟩) 2 2,.bool false,zL none 0 0,zL (some ⟨w3.heap.size,0,none⟩) 2 2,.bool false,zL (some ⟨w4.heap.size,0,none⟩) 2 2,.bool false,zL none 0 0,zL (some ⟨w5.heap.size,0,none⟩) 2 2,.bool false,zL (some ⟨w6.heap.size,0,none⟩) 2 2,.bool false,zL none 0 0]) (es:=([⟨(⟨[ze9 100,ze9 97],false⟩,some ⟨w1.heap.size,0,none⟩,2),(⟨[ze9 99,ze9 97],false⟩,some ⟨w2.heap.size,0,none⟩,2),zL none 0 0,[]⟩,⟨(⟨[ze9 100,ze9 98],false⟩,some ⟨w3.heap.size,0,none⟩,2),(⟨[ze9 99,ze9 98],false⟩,some ⟨w4.heap.size,0,none⟩,2),zL none 0 0,[]⟩,⟨(⟨[ze9 101,ze9 97],false⟩,some ⟨w5.heap.size,0,none⟩,2),(⟨[ze9 99,ze9 101],false⟩,some ⟨w6.heap.size,0,none⟩,2),zL none 0 0,[]⟩]:List zdk)) HB6.out rfl rfl (by show 3<=1000;omega) (by
  intro x hx;simp only[Zn,ZO,or_false] at hx
  rcases hx with rfl | rfl | rfl
  ·exact⟨zeo (l:=[ze9 100,ze9 97]) HP1 rfl (by decide) (by decide),zeo (l:=[ze9 99,ze9 97]) HP2 rfl (by decide) (by decide),zep _,Zg _⟩
  ·exact⟨zeo (l:=[ze9 100,ze9 98]) HP3 rfl (by decide) (by decide),zeo (l:=[ze9 99,ze9 98]) HP4 rfl (by decide) (by decide),zep _,Zg _⟩
  ·exact⟨zeo (l:=[ze9 101,ze9 97]) HP5 rfl (by decide) (by decide),zeo (l:=[ze9 99,ze9 101]) HP6 rfl (by decide) (by decide),zep _,Zg _⟩)
 exact HQ _ _ _ _ _ _ _ _ _ _ _ _ _ _ _ _ _ _ _ _ _ (hd_ ⟨rfl,H.1,H.2⟩)
theorem mpR13 (ops:Array Oper)(hops:Tryz.f11.body.bind (z0w 13)=some ops)(Q:Exit->Act->zW->Prop)(w1:zW)
  (hQ:∀(fM fN fO fP fQ fR fS fT fU fV fW:zV) (es:List zdk) (A':zP) (n c:Nat) (w':zW),Hid (es.map zdk.pl=zeb 5/\zdo w' (zL A' n c) es/\zB w1 w')->Q .normal ⟨#[u0,u1,zL A' n c,u3,u4,u5,u6,u7,u8,u9,gF,gG,gH,gI,gJ,gK,gL,gM,gN,gO,gP,gQ,gR,gT,gV,gW,gX,gY,gZ,i6,i7,i8,ia,ib,ic,ie,ig,ii,ij,ik,il,im,io,ip,iq,ir,iu,iv,iw,iy,iz,iA,iB,iC,iD,iE,iF,iG,iH,iI,iJ,iK,iL,iM,iN,iO,iP,iQ,iR,iS,iT,iU,iV,iW,iX,fM,fN,fO,fP,fQ,fR,fS,fT,fU,fV,fW,jh,ji,jj,jk,jl,jm,jn,jo,jp,jq,jr,js,jt],[]⟩ w'):
  (Code.region 13 ops false).wp prog Q ⟨#[u0,u1,u2,u3,u4,u5,u6,u7,u8,u9,gF,gG,gH,gI,gJ,gK,gL,gM,gN,gO,gP,gQ,gR,gT,gV,gW,gX,gY,gZ,i6,i7,i8,ia,ib,ic,ie,ig,ii,ij,ik,il,im,io,ip,iq,ir,iu,iv,iw,iy,iz,iA,iB,iC,iD,iE,iF,iG,iH,iI,iJ,iK,iL,iM,iN,iO,iP,iQ,iR,iS,iT,iU,iV,iW,iX,iY,iZ,j0,j1,j2,j9,jb,jd,je,jf,jg,jh,ji,jj,jk,jl,jm,jn,jo,jp,jq,jr,js,jt],[]⟩ w1:=by
 simp only[Tryz.f11,Zp,z0w] at hops
 simp at hops
 subst hops;have HQ:=hd_ hQ;clear hQ;have HB0:Hid (zB w1 w1):=hd_ (Zb _ _);go_wp2_with fail;refine (zel _ _ _ _ _ rfl _).mono ?_;rintro e w2 ⟨rfl,hb⟩;dsimp only;have HP1:=hd_ (zen (cs:=[zS ⟨#[101]⟩]) hb);have HB1:=hd_ (z0r HB0 (zem hb));clear hb;go_wp2_with fail;refine (zel _ _ _ _ _ rfl _).mono ?_;rintro e w3 ⟨rfl,hb⟩;dsimp only;have HP2:=hd_ (zen (cs:=[zS ⟨#[99]⟩]) hb);have HP1:=hd_ (HP1.kw (zem hb) HP1.lt);have HB2:=hd_ (z0r HB1 (zem hb));clear hb;go_wp2_with fail;refine (zel _ _ _ _ _ rfl _).mono ?_;rintro e w4 ⟨rfl,hb⟩;dsimp only;have HP3:=hd_ (zen (cs:=[zS ⟨#[100]⟩,zS ⟨#[42]⟩,zS ⟨#[97]⟩]) hb);have HP1:=hd_ (HP1.kw (zem hb) HP1.lt);have HP2:=hd_ (HP2.kw (zem hb) HP2.lt);have HB3:=hd_ (z0r HB2 (zem hb));clear hb;go_wp2_with fail;refine (zel _ _ _ _ _ rfl _).mono ?_;rintro e w5 ⟨rfl,hb⟩;dsimp only;have HP4:=hd_ (zen (cs:=[zS ⟨#[119]⟩,zS ⟨#[42]⟩,zS ⟨#[122]⟩]) hb);have HP1:=hd_ (HP1.kw (zem hb) HP1.lt);have HP2:=hd_ (HP2.kw (zem hb) HP2.lt);have HP3:=hd_ (HP3.kw (zem hb) HP3.lt);have HB4:=hd_ (z0r HB3 (zem hb));clear hb;go_wp2_with fail;have H:=zeq (w2:=w5) (n:=2) (cs:=[zL (some ⟨w1.heap.size,0,none⟩) 1 1,.bool true,zL (some ⟨w2.heap.size,0,none⟩) 1 1,.bool true,zL none 0 0,zL (some ⟨w3.heap.size,0,none⟩) 3 3,.bool false,zL (some ⟨w4.heap.size,0,none⟩) 3 3,.bool false,zL none 0 0]) (es:=([⟨(⟨[ze9 101],true⟩,some ⟨w1.heap.size,0,none⟩,1),(⟨[ze9 99],true⟩,some ⟨w2.heap.size,0,none⟩,1),zL none 0 0,[]⟩,⟨(⟨[ze9 100,zea,ze9 97],false⟩,some ⟨w3.heap.size,0,none⟩,3),(⟨[ze9 119,zea,ze9 122],false⟩,some ⟨w4.heap.size,0,none⟩,3),zL none 0 0,[]⟩]:List zdk)) HB4.out rfl rfl (by show 2<=1000;omega) (by
  intro x hx;simp only[Zn,ZO,or_false] at hx
  rcases hx with rfl | rfl
  ·exact⟨zeo (l:=[ze9 101]) HP1 rfl (by decide) (by decide),zeo (l:=[ze9 99]) HP2 rfl (by decide) (by decide),zep _,Zg _⟩
  ·exact⟨zeo (l:=[ze9 100,zea,ze9 97]) HP3 rfl (by decide) (by decide),zeo (l:=[ze9 119,zea,ze9 122]) HP4 rfl (by decide) (by decide),zep _,Zg _⟩)
 exact HQ _ _ _ _ _ _ _ _ _ _ _ _ _ _ _ _ (hd_ ⟨rfl,H.1,H.2⟩)
theorem mpR15 (ops:Array Oper)(hops:Tryz.f11.body.bind (z0w 15)=some ops)(Q:Exit->Act->zW->Prop)(w1:zW)
  (hQ:∀(fZ gf gg gh gu gx gy gz gA gC gD:zV) (es:List zdk) (A':zP) (n c:Nat) (w':zW),Hid (es.map zdk.pl=zeb 6/\zdo w' (zL A' n c) es/\zB w1 w')->Q .normal ⟨#[u0,u1,zL A' n c,u3,u4,u5,u6,u7,u8,u9,gF,gG,gH,gI,gJ,gK,gL,gM,gN,gO,gP,gQ,gR,gT,gV,gW,gX,gY,gZ,i6,i7,i8,ia,ib,ic,ie,ig,ii,ij,ik,il,im,io,ip,iq,ir,iu,iv,iw,iy,iz,iA,iB,iC,iD,iE,iF,iG,iH,iI,iJ,iK,iL,iM,iN,iO,iP,iQ,iR,iS,iT,iU,iV,iW,iX,iY,iZ,j0,j1,j2,j9,jb,jd,je,jf,jg,jh,ji,fZ,gf,gg,gh,gu,gx,gy,gz,gA,gC,gD],[]⟩ w'):
  (Code.region 15 ops false).wp prog Q ⟨#[u0,u1,u2,u3,u4,u5,u6,u7,u8,u9,gF,gG,gH,gI,gJ,gK,gL,gM,gN,gO,gP,gQ,gR,gT,gV,gW,gX,gY,gZ,i6,i7,i8,ia,ib,ic,ie,ig,ii,ij,ik,il,im,io,ip,iq,ir,iu,iv,iw,iy,iz,iA,iB,iC,iD,iE,iF,iG,iH,iI,iJ,iK,iL,iM,iN,iO,iP,iQ,iR,iS,iT,iU,iV,iW,iX,iY,iZ,j0,j1,j2,j9,jb,jd,je,jf,jg,jh,ji,jj,jk,jl,jm,jn,jo,jp,jq,jr,js,jt],[]⟩ w1:=by
 simp only[Tryz.f11,Zp,z0w] at hops
 simp at hops
 subst hops;have HQ:=hd_ hQ;clear hQ;have HB0:Hid (zB w1 w1):=hd_ (Zb _ _);go_wp2_with fail;refine (zel _ _ _ _ _ rfl _).mono ?_;rintro e w2 ⟨rfl,hb⟩;dsimp only;have HP1:=hd_ (zen (cs:=[zS ⟨#[100]⟩]) hb);have HB1:=hd_ (z0r HB0 (zem hb));clear hb;go_wp2_with fail;refine (zel _ _ _ _ _ rfl _).mono ?_;rintro e w3 ⟨rfl,hb⟩;dsimp only;have HP2:=hd_ (zen (cs:=[zS ⟨#[99]⟩]) hb);have HP1:=hd_ (HP1.kw (zem hb) HP1.lt);have HB2:=hd_ (z0r HB1 (zem hb));clear hb;go_wp2_with fail;refine (zel _ _ _ _ _ rfl _).mono ?_;rintro e w4 ⟨rfl,hb⟩;dsimp only;have HP3:=hd_ (zen (cs:=[zS ⟨#[101]⟩]) hb);have HP1:=hd_ (HP1.kw (zem hb) HP1.lt);have HP2:=hd_ (HP2.kw (zem hb) HP2.lt);have HB3:=hd_ (z0r HB2 (zem hb));clear hb;go_wp2_with fail;refine (zel _ _ _ _ _ rfl _).mono ?_;rintro e w5 ⟨rfl,hb⟩;dsimp only;have HP4:=hd_ (zen (cs:=[zS ⟨#[119]⟩]) hb);have HP1:=hd_ (HP1.kw (zem hb) HP1.lt);have HP2:=hd_ (HP2.kw (zem hb) HP2.lt);have HP3:=hd_ (HP3.kw (zem hb) HP3.lt);have HB4:=hd_ (z0r HB3 (zem hb));clear hb;go_wp2_with fail;have H:=zeq (w2:=w5) (n:=2) (cs:=[zL (some ⟨w1.heap.size,0,none⟩) 1 1,.bool true,zL (some ⟨w2.heap.size,0,none⟩) 1 1,.bool true,zL none 0 0,zL (some ⟨w3.heap.size,0,none⟩) 1 1,.bool true,zL (some ⟨w4.heap.size,0,none⟩) 1 1,.bool true,zL none 0 0]) (es:=([⟨(⟨[ze9 100],true⟩,some ⟨w1.heap.size,0,none⟩,1),(⟨[ze9 99],true⟩,some ⟨w2.heap.size,0,none⟩,1),zL none 0 0,[]⟩,⟨(⟨[ze9 101],true⟩,some ⟨w3.heap.size,0,none⟩,1),(⟨[ze9 119],true⟩,some ⟨w4.heap.size,0,none⟩,1),zL none 0 0,[]⟩]:List zdk)) HB4.out rfl rfl (by show 2<=1000;omega) (by
  intro x hx;simp only[Zn,ZO,or_false] at hx
  rcases hx with rfl | rfl
  ·exact⟨zeo (l:=[ze9 100]) HP1 rfl (by decide) (by decide),zeo (l:=[ze9 99]) HP2 rfl (by decide) (by decide),zep _,Zg _⟩
  ·exact⟨zeo (l:=[ze9 101]) HP3 rfl (by decide) (by decide),zeo (l:=[ze9 119]) HP4 rfl (by decide) (by decide),zep _,Zg _⟩)
 exact HQ _ _ _ _ _ _ _ _ _ _ _ _ _ _ _ _ (hd_ ⟨rfl,H.1,H.2⟩)
end
open Go.Sort (grow)
theorem z6d.tail2 {w:zW}{ad:Addr}{c n:Nat}{x:Syn}{r:List Syn}(h:z6d w (zL (some ad) n c) (x :: r)):
  z6d w (zL (if c=1 then some ad else some ⟨ad.block,ad.off+5,none⟩) r.length (c - 1)) r:=by
 obtain⟨A,c',e,h1,h2,h3,h4,h5⟩:=id h;injection e with e1 e2 e3
 subst e1 e3;rw[Zz] at h1 h5;refine⟨_,_,rfl,by omega,by omega,by
  rw[ZG,Zc,Zz] at h3;have h9:x.cells.length=5:=rfl;omega,?_,fun hr=>?_⟩
 ·intro hn;split at hn <;> cases hn
 obtain⟨ad',e',hb,hc⟩:=h5 (by omega)
 injection e' with e'
 subst e';rw[if_neg (by omega)]
 refine⟨_,rfl,hb,fun j u hj=>?_⟩;have:=hc (j+5) u (by
  rw[ZG,List.getElem?_append_right (by simp [Syn.cells])]
  simpa [Syn.cells] using hj)
 unfold Addr.add at this |-
 by_cases h0:j=0
 ·subst h0;simpa using this
 ·simpa [Nat.add_assoc,Nat.add_comm 5 j,h0] using this
def znt (h:Hav)(hs:List Hav)(ps:List Syn):List Hav:=z68 h.kt ps++z6a h (z69 h.kt ps)++z6c hs (z6b h (z69 h.kt ps))
theorem znu {h:Hav}{hs:List Hav}{x:Syn}{r:List Syn}(hc:z30 x.kt h.kt<0):znt h hs (x :: r)=z67 x++znt h hs r:=by
 unfold znt;rw[z68,z69,if_pos hc,if_pos hc,ZE,ZE,ZE]
theorem znv {h:Hav}{hs:List Hav}:znt h hs []=h :: z6c hs []:=rfl
theorem znw {h:Hav}{hs:List Hav}{x:Syn}{r:List Syn}(hc:¬ z30 x.kt h.kt<0)(hp:x.kt=h.kt)(hk:z5d x.kind=true):znt h hs (x :: r)=h :: z6c hs r:=by
 unfold znt;rw[z68,z69,if_neg hc,if_neg hc,z6a,z6b,if_pos hp,if_pos hp,if_pos hk];rfl
theorem resM_go {h:Hav}{hs:List Hav}{x:Syn}{r:List Syn}(hc:¬ z30 x.kt h.kt<0)(hp:x.kt=h.kt)(hk:z5d x.kind=false):znt h hs (x :: r)=z66 x++z6c hs r:=by
 unfold znt;rw[z68,z69,if_neg hc,if_neg hc,z6a,z6b,if_pos hp,if_pos hp,hk];rfl
theorem znx {h:Hav}{hs:List Hav}{x:Syn}{r:List Syn}(hc:¬ z30 x.kt h.kt<0)(hp:¬ x.kt=h.kt):znt h hs (x :: r)=h :: z6c hs (x :: r):=by
 unfold znt;rw[z68,z69,if_neg hc,if_neg hc,z6a,z6b,if_neg hp,if_neg hp];rfl
theorem zny (p:zA)(l:List Syn):(z68 p l).length+(z69 p l).length<=l.length:=by
 induction l with
 | nil=>simp [z68,z69]
 | cons x r ih =>
  rw[z68,z69];split
  ·have:=znq x;rw[Zc,Zz];omega
  ·simp
theorem znz (h:Hav)(l:List Syn):(z6a h l).length+(z6b h l).length<=l.length+1:=by
 cases l with
 | nil=>simp [z6a,z6b]
 | cons x r =>
  rw[z6a,z6b];split
  ·have:=znp x;split <;> simp <;> omega
  ·simp;omega
theorem zo0:∀(hs:List Hav) (ps:List Syn),(z6c hs ps).length<=hs.length+ps.length
 | [],ps=>by have:=znr ps;rw[z6c];simpa using this
 | h :: hs,ps=>by
  have h1:=zny h.kt ps;have h2:=znz h (z69 h.kt ps);have h3:=zo0 hs (z6b h (z69 h.kt ps));rw[z6c,Zc,Zc,Zz];omega
theorem zo1 {O T L:List Hav}{m:Nat}(h:O++T=L)(hl:L.length<=m)(hm:m+1<=1000000):(O.length+1) * 40<=140737488355328:=by
 have:=congrArg List.length h;rw[Zc] at this;exact room40 (by omega)
def ReO (w wr:zW)(hs:List Hav)(ss:List Syn)(k:Nat)(A:zP)(c n:Nat):Prop:=
 ∃(O:List Hav) (ps:List Syn) (v:zV),n=ps.length/\z6d w (zL A n c) ps/\(∀ x∈ps,x∈ss)/\ps.length<=ss.length/\Aft w wr w.heap.size O v/\O++z6c (hs.drop k) ps=z6c hs ss
structure ReI (w wr:zW)(hs:List Hav)(ss:List Syn)(k g:Nat)(h:Hav)(O:List Hav)(ps:List Syn)(v:zV):Prop where
 aft:Aft w wr w.heap.size O v
 box:Blk wr g 84 [zS h.kt,zI h.num,zS h.loc]
 off:v.ownBlock≠some g
 gne:g≠w.heap.size
 len:ps.length<=ss.length
 eq:O++znt h (hs.drop (k+1)) ps=z6c hs ss
theorem ReI.ku {w wr X:zW}{hs:List Hav}{ss:List Syn}{k g:Nat}{h:Hav}{O:List Hav}{ps:List Syn}{v:zV}(H:ReI w wr hs ss k g h O ps v)(hb:zB wr X):ReI w X hs ss k g h O ps v:=
 ⟨H.aft.ku hb,H.box.kw hb H.box.lt,H.off,H.gne,H.len,H.eq⟩
theorem ReI.pop0 {w wr:zW}{hs:List Hav}{ss:List Syn}{k g:Nat}{h:Hav}{O:List Hav}{x:Syn}{r:List Syn}{v:zV}(H:ReI w wr hs ss k g h O (x :: r) v)(hc:z30 x.kt h.kt<0)(hp:z67 x=[]):ReI w wr hs ss k g h O r v:=
 ⟨H.aft,H.box,H.off,H.gne,by have:=H.len;rw[Zz] at this;omega,by rw[<- H.eq,znu hc,hp];rfl⟩
theorem ReI.pop1 {w wr w3:zW}{hs:List Hav}{ss:List Syn}{k g:Nat}{h:Hav}{O:List Hav}{x:Syn}{r:List Syn}{v v3:zV}(H:ReI w wr hs ss k g h O (x :: r) v)(hc:z30 x.kt h.kt<0)(hp:z67 x=z66 x)
  (hA:Aft w w3 w.heap.size (O++z66 x) v3) (hK:Kp w.heap.size wr w3 v v3):ReI w w3 hs ss k g h (O++z66 x) r v3:=by
 obtain⟨b1,b2⟩:=hK.blk H.box H.gne H.off;exact⟨hA,b1,b2,H.gne,by have:=H.len;rw[Zz] at this;omega,by rw[<- H.eq,znu hc,hp,ZE]⟩
theorem ReI.room {w wr:zW}{hs:List Hav}{ss:List Syn}{k g:Nat}{h:Hav}{O:List Hav}{ps:List Syn}{v:zV}(H:ReI w wr hs ss k g h O ps v)(hl:hs.length+ss.length+1<=1000000):(O.length+1) * 40<=140737488355328:=
 zo1 H.eq (zo0 hs ss) hl
theorem zo2 (hs:List Hav)(ss:List Syn)(hv pv:zV)(w:zW)(hH:z5s w hv hs)(hS:z6d w pv ss)(hz:∀ x∈hs,x.kt.size<=2000000)(hz2:∀ x∈ss,x.kt.size<=2000000)(hl:hs.length+2 * ss.length+1<=1000000):
  Calls prog 75 #[hv,pv] w fun e w'=>∃ v,e=.returned v/\z5s w' v (z6c hs ss)/\zB w w':=by
 obtain⟨Ah,ch,rfl,-⟩:=id hH;obtain⟨A1,c1,rfl,-⟩:=id hS;have hO:ReO w (w.alloc (zC #[zL none 0 0] 28)) hs ss 0 A1 c1 ss.length:=⟨[],ss,zL none 0 0,rfl,hS,fun _ h=>h,Zd _,⟨zR,z0l w [zL none 0 0] _,Zv _ _ _ _⟩,rfl⟩;have HO:=hd_ hO;have HH:=hd_ hH;have HZ:=hd_ hz;have HZ2:=hd_ hz2;have HL:=hd_ hl;have hkb:hs.length<=1000000:=by omega
 have HL2:=hd_ (show hs.length+ss.length+1<=1000000 by omega)
 clear hH hS hz hz2 hl hO;go_enter func75,ntmps75;go_wp2_with fail;go_loopw [1,14] (fun p i wr=>∃(k:Nat) (A:zP) (c n:Nat),k<=hs.length/\p=zL A n c/\i=zI k/\Hid (ReO w wr hs ss k A c n)) (fun _ i _=>hs.length - (intOf i).toNat)
 exact⟨0,A1,c1,ss.length,Zg _,rfl,rfl,HO⟩
 obtain⟨k,A,c,n,hk,rfl,rfl,HI⟩:=hrel;rename ∀ a w,Code.wp _ (Code.seq (Code.seq (Code.region 17 _ _) _) _) _ a w->_=>hkk
 have HKK:=hd_ hkk;clear hkk;obtain⟨O,ps,v,rfl,hps,hmem,hpl,hA,heq⟩:=HI.out;by_cases hlt:k<hs.length
 ·obtain⟨ad,rfl,hab,y0,y1,y2⟩:=z5s.at_ (HH.out.kw hA.bel) hlt;have hzk:=HZ.out hs[k] (Za _);rw[Zo hlt] at heq;generalize hs[k]=h at y0 y1 y2 heq hzk;have HP:=hd_ hps;have HX0:Hid (ReI w (wr.alloc (zC #[zS h.kt,zI h.num,zS h.loc] 84)) hs ss k wr.heap.size h O ps v):=hd_ ⟨hA.alloc _,z0l wr [zS h.kt,zI h.num,zS h.loc] _,fun e=>by have:=(hA.row.lt _ e).2;omega,by have:=hA.box.lt;omega,hpl,heq⟩
  clear hps hA heq HI HO;go_wp2_with fail;clear y0 y1 y2 hab;generalize wr.heap.size=g at HX0 |-;go_loopw [1] (fun p wq=>∃(A:zP) (c n:Nat) (O:List Hav) (ps:List Syn) (v:zV),p=zL A n c/\n=ps.length/\Hid (z6d w (zL A n c) ps)/\(∀ x∈ps,x∈ss)/\Hid (ReI w wq hs ss k g h O ps v)) (fun p _=>zj4 p)
  exact⟨A,c,ps.length,O,ps,v,rfl,rfl,HP,hmem,HX0⟩
  obtain⟨A,c,n,O,ps,v,rfl,hn,HP2,hmem2,HR⟩:=hrel;cases ps with
  | nil =>
   have hn':n=0:=hn;have n0:decide (0<n)=false:=by simp;omega
   have HN:=hd_ hn';clear hn hn';go_wp2_with fail;refine wp_region_quiet_below (by kernel_rfl) (by kernel_rfl) ?_
   repeat (first | go_big_quiet_step (fail) | quiet_step (fail))
   refine wpQuiet_nil ?_;intro _ hw9;obtain⟨⟨dq,osq⟩,hw9⟩:=hw9;subst hw9;have HR1:=hd_ (HR.ku (below_regrown wr dq osq));generalize grow (redrawn wr dq) osq=W1 at HR1 |-;go_wp2_with fail;refine wp_region_quiet_below (by kernel_rfl) (by kernel_rfl) ?_
   repeat (first | go_big_quiet_step (fail) | quiet_step (fail))
   refine wpQuiet_nil ?_;intro _ hw9;obtain⟨⟨dq,osq⟩,hw9⟩:=hw9;subst hw9;have HR2:=hd_ (HR1.ku (below_regrown W1 dq osq));generalize grow (redrawn W1 dq) osq=W2 at HR2 |-;have HA2:=hd_ (HR2.aft.alloc (zC #[zS h.kt,zI h.num,zS h.loc] 84));have hbx:W2.cell? ⟨w.heap.size,0,none⟩=some v:=HR2.aft.box.cell 0;obtain⟨d0,d1,d2⟩:=z5h (x:=h) HR2.out.box;have hrm:=HR2.out.room HL2.out;have hrow:=z0i W2 [zS h.kt,zI h.num,zS h.loc] 84 3 1 rfl (by unfold maxLen;omega) W2.heap.size rfl
   have hsz:w.heap.size+1<=(W2.alloc (zC #[zS h.kt,zI h.num,zS h.loc] 84)).heap.size:=by have:=HR2.out.aft.box.lt;simp;omega
   obtain⟨A0,c0,rfl⟩:=z0o HR2.out.aft.row;go_wp2_with (at_builtin;refine z0j rfl rfl z6g HA2.row rfl hrow rfl (z6h h) hrm (by unfold maxLen;omega) hsz ?_;intro A' c' w2 hown hgr hob;obtain⟨hA3,hK3⟩:=HA2.out.push (x:=h) hown hgr hob;have hbw:=Blk.grown HA2.out.box hgr (fun e=>by have:=(HA2.out.row.lt w.heap.size e.symm).1;omega);have hfz:=hbw.frozen 0;have hcl:w2.cell? ⟨w.heap.size,0,none⟩=some (.slice A0 O.length c0):=hbw.cell 0)
   go_roundw
   exact⟨k+1,A,c,n,by omega,rfl,by go_num,hd_ ⟨O++[h],[],_,HN,HP2,fun _ h=>(by cases h),Zg _,hA3,by rw[<- HR2.out.eq,znv,ZE];rfl⟩⟩
   simp [intOf];omega
  | cons x r =>
   obtain rfl:n=r.length+1:=hn
   obtain⟨-,ad2,rfl,-,-⟩:=HP2.out.head;have HT2:=hd_ HP2.tail2;have hxs:=(HZ2.out x (hmem2 x Zj));have HMR:Hid (∀ z∈r,z∈ss):=hd_ (fun z hz=>hmem2 z (Zh _ hz));have HX0X:Hid (x∈ss):=hd_ (hmem2 x Zj);have HLE:Hid (r.length<=ss.length):=hd_ (by have:=HR.out.len;rw[Zz] at this;omega)
   have HSY:Hid (∀ X,zB w X->z6e X ad2 x):=hd_ (fun X hX=>by
    obtain⟨-,ad3,e3,-,h3⟩:=(HP2.out.kw hX).head;injection e3 with e3
    subst e3;exact h3)
   have hz0:(0:Int)<((r.length+1:Nat):Int):=by omega
   obtain⟨s0,s1,s2,s3,s4⟩:=HSY.out wr (HR.out.aft.bel);have e1:=cell_regrown s1;have b0:=cell_regrown (z5h (x:=h) HR.out.box).1;have HCMP:=hd_ (fun X=>z5p x.kt h.kt X (by omega) (by omega))
   have cC:∀ d os,Calls prog 52 #[zS x.kt,zS h.kt] (grow (redrawn wr d) os) fun e w''=>e=.returned (zI (z30 x.kt h.kt))/\∃ p:Regrown,w''=grow (redrawn wr p.d) p.os:=fun d os=>Calls.regrown_of ((HCMP (grow (redrawn wr d) os)).mono (by rintro e w5 ⟨rfl,n5,rfl⟩;exact⟨rfl,z48 _ _⟩))
   generalize hcv:z30 x.kt h.kt=cv at cC;by_cases hlc:cv<0
   ·have n2:decide (cv<0)=true:=decide_eq_true hlc;have HLC:Hid (z30 x.kt h.kt<0):=hd_ (by rw[hcv];exact hlc)
    clear hcv hlc s0 s1 s2 s3 s4;go_wp2_with fail;refine wp_region_quiet_below (by kernel_rfl) (by kernel_rfl) ?_
    repeat (first | go_big_quiet_step (exact cC _ _) | quiet_step (exact cC _ _))
    refine wpQuiet_nil ?_;intro _ hw9;obtain⟨⟨dq,osq⟩,hw9⟩:=hw9;subst hw9;have HR1:=hd_ (HR.ku (below_regrown wr dq osq));generalize grow (redrawn wr dq) osq=W1 at HR1 |-;clear e1 b0 cC n2;obtain⟨s0,s1,s2,s3,s4⟩:=HSY.out W1 (HR1.out.aft.bel);have HST:=hd_ (z5j x W1);cases hst:z5d x.kind with
    | true =>
     have HPU:Hid (z67 x=[]):=hd_ (by unfold z67;rw[hst];rfl)
     rw[hst] at HST;clear hst;go_wp2_with fail;refine HST.mono ?_;rintro e w5 ⟨rfl,hb⟩;have HR2:=hd_ (HR1.ku hb);clear hb;clear s0 s1 s2 s3 s4;go_wp2_with fail;go_roundw
     exact⟨_,_,_,O,r,v,rfl,rfl,HT2,HMR,hd_ (HR2.pop0 HLC HPU)⟩
     first | (simp [zj4];done) | (simp [zj4];omega)
    | false =>
     have HPU:Hid (z67 x=z66 x):=hd_ (by unfold z67;rw[hst];rfl)
     rw[hst] at HST;clear hst;go_wp2_with fail;refine HST.mono ?_;rintro e w5 ⟨rfl,hb⟩;have HR2:=hd_ (HR1.ku hb);clear hb;clear s0 s1 s2 s3 s4;obtain⟨s0,s1,s2,s3,s4⟩:=HSY.out w5 (HR2.out.aft.bel);have HAD:=hd_ (z6k x w w5 w.heap.size _ v HR2.aft (HR2.room HL2));go_wp2_with fail;refine HAD.mono ?_;rintro e w6 ⟨rfl,v6,h6,k6⟩;have HR3:=hd_ (HR2.pop1 HLC HPU h6 k6);clear h6 k6;clear s0 s1 s2 s3 s4;go_wp2_with fail;go_roundw
     exact⟨_,_,_,O++z66 x,r,v6,rfl,rfl,HT2,HMR,HR3⟩
     first | (simp [zj4];done) | (simp [zj4];omega)
   ·have n2:decide (cv<0)=false:=decide_eq_false hlc;have HLC:Hid (0<=z30 x.kt h.kt):=hd_ (by rw[hcv];exact Int.not_lt.1 hlc)
    clear hcv hlc s0 s1 s2 s3 s4;go_wp2_with fail;refine wp_region_quiet_below (by kernel_rfl) (by kernel_rfl) ?_
    repeat (first | go_big_quiet_step (exact cC _ _) | quiet_step (exact cC _ _))
    refine wpQuiet_nil ?_;intro _ hw9;obtain⟨⟨dq,osq⟩,hw9⟩:=hw9;subst hw9;have HR1:=hd_ (HR.ku (below_regrown wr dq osq));generalize grow (redrawn wr dq) osq=W1 at HR1 |-;clear e1 b0 cC n2;obtain⟨s0,s1,s2,s3,s4⟩:=HSY.out W1 (HR1.out.aft.bel);have e1:=cell_regrown s1;have b0:=cell_regrown (z5h (x:=h) HR1.out.box).1;have q:=z5m x.kt h.kt;clear s0 s1 s2 s3 s4;by_cases hp:x.kt=h.kt
    ·rw[decide_eq_true hp] at q;have HPE:=hd_ hp;clear hp;go_wp2_with fail;refine wp_region_quiet_below (by kernel_rfl) (by kernel_rfl) ?_
     repeat (first | go_big_quiet_step (fail) | quiet_step (fail))
     refine wpQuiet_nil ?_;intro _ hw9;obtain⟨⟨dq,osq⟩,hw9⟩:=hw9;subst hw9;have HR2:=hd_ (HR1.ku (below_regrown W1 dq osq));generalize grow (redrawn W1 dq) osq=W2 at HR2 |-;clear e1 b0;obtain⟨s0,s1,s2,s3,s4⟩:=HSY.out W2 (HR2.out.aft.bel);have HST:=hd_ (z5j x W2);cases hst:z5d x.kind with
     | true =>
      have HM:=hd_ (znw (hs:=hs.drop (k+1)) (r:=r) (Int.not_lt.2 HLC) HPE hst);rw[hst] at HST;clear hst;go_wp2_with fail;refine HST.mono ?_;rintro e w5 ⟨rfl,hb⟩;have HR3:=hd_ (HR2.ku hb);clear hb;clear s0 s1 s2 s3 s4;have HA2:=hd_ (HR3.aft.alloc (zC #[zS h.kt,zI h.num,zS h.loc] 84));have hbx:w5.cell? ⟨w.heap.size,0,none⟩=some v:=HR3.aft.box.cell 0;obtain⟨d0,d1,d2⟩:=z5h (x:=h) HR3.out.box;have hrm:=HR3.out.room HL2.out;have hrow:=z0i w5 [zS h.kt,zI h.num,zS h.loc] 84 3 1 rfl (by unfold maxLen;omega) w5.heap.size rfl
      have hsz:w.heap.size+1<=(w5.alloc (zC #[zS h.kt,zI h.num,zS h.loc] 84)).heap.size:=by have:=HR3.out.aft.box.lt;simp;omega
      obtain⟨A0,c0,rfl⟩:=z0o HR3.out.aft.row;go_wp2_with (at_builtin;refine z0j rfl rfl z6g HA2.row rfl hrow rfl (z6h h) hrm (by unfold maxLen;omega) hsz ?_;intro A' c' w2 hown hgr hob;obtain⟨hA3,hK3⟩:=HA2.out.push (x:=h) hown hgr hob;have hbw:=Blk.grown HA2.out.box hgr (fun e=>by have:=(HA2.out.row.lt w.heap.size e.symm).1;omega);have hfz:=hbw.frozen 0;have hcl:w2.cell? ⟨w.heap.size,0,none⟩=some (.slice A0 O.length c0):=hbw.cell 0)
      have HN:=hd_ hA3;clear hK3 hbw hfz hcl;go_wp2_with fail;go_roundw
      exact⟨k+1,_,_,_,by omega,rfl,by go_num,hd_ ⟨O++[h],r,_,rfl,HT2,HMR,HLE,HN,by rw[<- HR2.out.eq,HM.out,ZE];rfl⟩⟩
      simp [intOf];omega
     | false =>
      have HM:=hd_ (resM_go (hs:=hs.drop (k+1)) (r:=r) (Int.not_lt.2 HLC) HPE hst);rw[hst] at HST;clear hst;go_wp2_with fail;refine HST.mono ?_;rintro e w5 ⟨rfl,hb⟩;have HR3:=hd_ (HR2.ku hb);clear hb;clear s0 s1 s2 s3 s4;obtain⟨s0,s1,s2,s3,s4⟩:=HSY.out w5 (HR3.out.aft.bel);have HAD:=hd_ (z6k x w w5 w.heap.size _ v HR3.aft (HR3.room HL2));go_wp2_with fail;refine HAD.mono ?_;rintro e w6 ⟨rfl,v6,h6,k6⟩;have HN:=hd_ h6;clear h6 k6;clear s0 s1 s2 s3 s4;go_wp2_with fail;go_roundw
      exact⟨k+1,_,_,_,by omega,rfl,by go_num,hd_ ⟨O++z66 x,r,_,rfl,HT2,HMR,HLE,HN,by rw[<- HR2.out.eq,HM.out,ZE]⟩⟩
      simp [intOf];omega
    ·have HM:=hd_ (znx (hs:=hs.drop (k+1)) (r:=r) (Int.not_lt.2 HLC) hp);rw[decide_eq_false hp] at q;clear hp;go_wp2_with fail;refine wp_region_quiet_below (by kernel_rfl) (by kernel_rfl) ?_
     repeat (first | go_big_quiet_step (fail) | quiet_step (fail))
     refine wpQuiet_nil ?_;intro _ hw9;obtain⟨⟨dq,osq⟩,hw9⟩:=hw9;subst hw9;have HR2:=hd_ (HR1.ku (below_regrown W1 dq osq));generalize grow (redrawn W1 dq) osq=W2 at HR2 |-;clear e1 b0;have HA2:=hd_ (HR2.aft.alloc (zC #[zS h.kt,zI h.num,zS h.loc] 84));have hbx:W2.cell? ⟨w.heap.size,0,none⟩=some v:=HR2.aft.box.cell 0;obtain⟨d0,d1,d2⟩:=z5h (x:=h) HR2.out.box;have hrm:=HR2.out.room HL2.out;have hrow:=z0i W2 [zS h.kt,zI h.num,zS h.loc] 84 3 1 rfl (by unfold maxLen;omega) W2.heap.size rfl
     have hsz:w.heap.size+1<=(W2.alloc (zC #[zS h.kt,zI h.num,zS h.loc] 84)).heap.size:=by have:=HR2.out.aft.box.lt;simp;omega
     obtain⟨A0,c0,rfl⟩:=z0o HR2.out.aft.row;go_wp2_with (at_builtin;refine z0j rfl rfl z6g HA2.row rfl hrow rfl (z6h h) hrm (by unfold maxLen;omega) hsz ?_;intro A' c' w2 hown hgr hob;obtain⟨hA3,hK3⟩:=HA2.out.push (x:=h) hown hgr hob;have hbw:=Blk.grown HA2.out.box hgr (fun e=>by have:=(HA2.out.row.lt w.heap.size e.symm).1;omega);have hfz:=hbw.frozen 0;have hcl:w2.cell? ⟨w.heap.size,0,none⟩=some (.slice A0 O.length c0):=hbw.cell 0)
     have HN:=hd_ hA3;go_roundw
     exact⟨k+1,some ad2,c,r.length+1,by omega,rfl,by go_num,hd_ ⟨O++[h],x :: r,_,rfl,HP2,fun z hz=>by rcases Zn.1 hz with rfl | hz;exact HX0X;exact HMR z hz,HR2.len,HN,by rw[<- HR2.out.eq,HM.out,ZE];rfl⟩⟩
     simp [intOf];omega
 ·have hT:hs.drop k=[]:=ZX (by omega)
  rw[hT,z6c] at heq;have HX:=hd_ hA;have HP:=hd_ hps;have HLL:=hd_ (show O.length+ps.length+1<=1000000 by
   have:=congrArg List.length heq;have h2:=zo0 hs ss;rw[Zc] at this;have:=HL.out;omega)
  have HRR:=hd_ (fun(v':zV) (X:zW) (h:Aft w X w.heap.size (O++ps.flatMap z67) v')=>(⟨v',rfl,by rw[<- heq];exact Row.of_own h.row,h.bel⟩:∃ v,Ending.returned v'=.returned v/\z5s X v (z6c hs ss)/\zB w X))
  clear hps hA heq HI HO;go_wp2_with fail;refine HKK _ _ (rsT17 _ (by kernel_rfl) (fun e w'=>∃ v,e=.returned v/\z5s w' v (z6c hs ss)/\zB w w') w _ O ps v A c HX HP HLL HRR _ _ _ _ _ _ _ _ _ _ _ _ _ _ _ _ _ _ _ _ _ _ _ _ _ _ _ _ _ _ _ _ _ _ _ _ _ _ _ _ _ _ _ _ _ _ _ _ _ _ _ _ _ _ _ _ _ _ _ _ _ _ _ _ _ _ _ _ _ _ _ _ _ _ _ _ _ _ _ _ _ _ _ _ _ _)
def zq8 (w:zW)(U g m:Nat)(e:Ending)(w':zW):Prop:=∃(k:Nat) (es:List zdk) (v:zV),e=.returned v/\k<8/\es.map zdk.pl=zeb k/\zdo w' v es/\z4d w' U g (m+1)/\z49 [g] w w'
theorem zq9 (U g m:Nat)(w:zW)(hT:z4d w U g m)(hm:m<=1000000):Calls prog 11 #[.pointer (some ⟨g,0,none⟩)] w (zq8 w U g m):=by
 have HN:=hd_ (z4e U g m 8 w hT hm (by omega))
 clear hT hm;go_enter func11,ntmps11;go_upto_region 2 with fail;refine HN.mono ?_;rintro e w1 ⟨k,rfl,hk,hT1,hK1⟩;dsimp only;have HT:=hd_ hT1;have HK:=hd_ hK1;have h8:k=0\/k=1\/k=2\/k=3\/k=4\/k=5\/k=6\/k=7:=by obtain⟨a,b,-⟩:=hk;have:=b (by omega);omega
 clear hT1 hK1 hk HN;have HF:Hid (∀(k:Nat) (es:List zdk) (v:zV) (w':zW),k<8->es.map zdk.pl=zeb k->zdo w' v es->zB w1 w'->zq8 w U g m (.returned v) w'):=hd_ fun k es v w' h1 h2 h3 h4=>⟨k,es,v,rfl,h1,h2,h3,HT.kw h4,HK.ku h4⟩;rcases h8 with rfl | rfl | rfl | rfl | rfl | rfl | rfl | rfl
 ·as_aux_lemma =>
  go_upto_region 3 with fail;refine mpR3 _ (by kernel_rfl) _ w1 ?_
  intro t7 t8 t9 ei el em es A' n c w' H;go_wp2_with fail;go_ret;exact HF 0 es _ w' (by decide) H.1 H.2.1 H.2.2
 ·as_aux_lemma =>
  go_upto_region 5 with fail;refine mpR5 _ (by kernel_rfl) _ w1 ?_
  intro en eo et eu ew eA eB eC eD es A' n c w' H;go_wp2_with fail;go_ret;exact HF 1 es _ w' (by decide) H.1 H.2.1 H.2.2
 ·as_aux_lemma =>
  go_upto_region 7 with fail;refine mpR7 _ (by kernel_rfl) _ w1 ?_
  intro eG eH eI eJ eK eL eM eN eO eP eQ es A' n c w' H;go_wp2_with fail;go_ret;exact HF 2 es _ w' (by decide) H.1 H.2.1 H.2.2
 ·as_aux_lemma =>
  go_upto_region 9 with fail;refine mpR9 _ (by kernel_rfl) _ w1 ?_
  intro eT eU eV eW eX eY eZ fa fd fe ff fg fh fj fk fm es A' n c w' H;go_wp2_with fail;go_ret;exact HF 3 es _ w' (by decide) H.1 H.2.1 H.2.2
 ·as_aux_lemma =>
  go_upto_region 11 with fail;refine mpR11 _ (by kernel_rfl) _ w1 ?_
  intro ft fu fv fw fx fy fA fB fC fD fE fF fG fH fI fJ es A' n c w' H;go_wp2_with fail;go_ret;exact HF 4 es _ w' (by decide) H.1 H.2.1 H.2.2
 ·as_aux_lemma =>
  go_upto_region 13 with fail;refine mpR13 _ (by kernel_rfl) _ w1 ?_
  intro fM fN fO fP fQ fR fS fT fU fV fW es A' n c w' H;go_wp2_with fail;go_ret;exact HF 5 es _ w' (by decide) H.1 H.2.1 H.2.2
 ·as_aux_lemma =>
  go_upto_region 15 with fail;refine mpR15 _ (by kernel_rfl) _ w1 ?_
  intro fZ gf gg gh gu gx gy gz gA gC gD es A' n c w' H;go_wp2_with fail;go_ret;exact HF 6 es _ w' (by decide) H.1 H.2.1 H.2.2
 ·as_aux_lemma =>
  go_wp2_with fail;go_ret;exact HF 7 [] _ w1 (by decide) rfl ⟨Row.nil_ _ 5,fun x h=>by cases h⟩ (Zb _ _)
end Go.Proofs.YtlnjaagijaadmaaGreatDoor
/- Lists of have-entries and of steps as arguments under an Upto bound: their texts are short, they are not long. -/
namespace Go.Proofs.YtlnjaagijaadmaaGreatDoor.upto
open Go.Proofs.Tryz
open Go.RowKit Go.ChangeShapes Go.WideShapes Go.Deep
theorem zt1 {H:Type}(d:DataW H):1<=Rows.uptoBulk d:=by
 cases d with
 | lit l=>cases l <;> simp [Rows.uptoBulk]
 | nil=>simp [Rows.uptoBulk]
 | ptr d=>simp [Rows.uptoBulk]
 | slice elems spare=>simp [Rows.uptoBulk]
 | agg parts=>simp [Rows.uptoBulk]
 | iface t d=>simp [Rows.uptoBulk]
 | map entries=>simp [Rows.uptoBulk]
 | held h=>simp [Rows.uptoBulk]
theorem zt2 {H:Type}{d:DataW H}{l:List (DataW H)}(h:d∈l):Rows.uptoBulk d<=Rows.uptoBulkAll l:=by
 induction l with
 | nil=>cases h
 | cons x r ih =>
  simp only[Rows.uptoBulkAll]
  rcases Zn.1 h with e | e
  ·subst e;omega
  ·have:=ih e;omega
theorem all_le {H:Type}{M:Nat}{l:List (DataW H)}(h:∀ d∈l,M<=Rows.uptoBulk d):l.length * M<=Rows.uptoBulkAll l:=by
 induction l with
 | nil=>simp [Rows.uptoBulkAll]
 | cons x r ih =>
  simp only[Rows.uptoBulkAll,Zz,Nat.succ_mul]
  have h1:=h x (Zj ..);have h2:=ih (fun d hd=>h d (Zh _ hd));omega
theorem zt3 {α:Type}{p:Nat->α->Prop}:∀(n:Nat),(∀ i,i<n->∃ x,p i x)->∃ l:List α,l.length=n/\∀ i (h:i<l.length),p i l[i]
 | 0,_=>⟨[],rfl,fun i h=>absurd h (by simp)⟩
 | n+1,h=>by
  obtain⟨l,hl,hp⟩:=zt3 n (fun i hi=>h i (by omega))
  obtain⟨x,hx⟩:=h n (by omega)
  refine⟨l++[x],by simp [hl],fun i hi=>?_⟩
  by_cases hil:i<l.length
  ·rw[List.getElem_append_left hil];exact hp i hil
  ·have:i=n:=by simp at hi;omega
   subst this;rw[List.getElem_append_right (by omega)];simpa using hx
section
variable {H : Type} {enc : TypeId × zV -> H} {P : Program} {w : zW} {spare : Nat -> Bool} {held : Bool}
def Rd {α:Type}(enc:TypeId×zV->H)(P:Program)(w:zW)(spare:Nat->Bool)(held:Bool)(e:TypeId)(f:α->List zV)(Pr:α->Prop)(M:Nat):Prop:=
 ∀ n cs y,DataW.trod enc P w 0 spare held n e cs=some y->Rows.uptoBulk y.1<=1048576->M<=Rows.uptoBulk y.1/\∃ x,cs=f x/\Pr x
theorem zt4 {t:TypeId}(ht:P.underlying t=some .string):Rd enc P w spare held t (fun s:zA=>[zS s]) (fun s=>s.size<=1048576) 1:=fun n cs y h hw=>by
 obtain⟨s,e,hy,hs⟩:=DataW.trod_string ht h;refine⟨zt1 _,s,e,?_⟩;subst hy;simp only[Rows.uptoBulk] at hw
 have h2:s.data.toList.length=s.size:=rfl;first | omega | (simp at hw;omega)
theorem zt5 {e:TypeId}{fs:Array Field}{cs:List zV}{n:Nat}{y:DataW H×List MemPlace}(he:P.underlying e=some (.struct fs))(h:DataW.trod enc P w 0 spare held n e cs=some y)(hw:Rows.uptoBulk y.1<=1048576):
  fs.size+1<=Rows.uptoBulk y.1/\cs.length=P.cellsOf e/\∀(i:Nat) (f:Field) (T:TypeId) (off k:Nat),fs[i]? = some f->f.type=T->f.offset=off->P.cellsOf T=k ->
   ∃ n' y',DataW.trod enc P w 0 spare held n' T ((cs.drop off).take k)=some y'/\Rows.uptoBulk y'.1<=1048576:=by
 obtain⟨ys,n',_,hy,hl,hlen,hfld⟩:=DataW.trod_struct he h;refine⟨?_,hl,fun i f T off k hf hT ho hk=>?_⟩
 ·rw[hy];simp only[Rows.uptoBulk]
  have:=all_le (M:=1) (l:=ys.map (·.1)) (fun d _=>zt1 d);rw[Zk] at this;omega
 ·have:=hfld i f hf;have hi:=(ZC.1 hf).1;rw[Ze (by omega)] at this
  rw[hT,ho,hk] at this;refine⟨n',_,this,?_⟩;rw[hy] at hw;simp only[Rows.uptoBulk] at hw
  have h3:(ys[i]'(by omega)).1∈ys.map (·.1):=ZJ (Za _)
  have:=zt2 h3;omega
theorem zt6 {α:Type}{f:α->List zV}{Pr:α->Prop}{k M:Nat}{t e:TypeId}(hf:∀ x,(f x).length=k)(hk:0<k)(ht:P.underlying t=some (.slice e))(hC:P.cellsOf e=k)(hR:Rd enc P w spare held e f Pr M):
  ∀ n cs y,DataW.trod enc P w 0 spare held n t cs=some y->Rows.uptoBulk y.1<=1048576->∃(v:zV) (l:List α),cs=[v]/\l.length * M<=1048576/\(∃ A c,v=zL A l.length c)/\Row w k v l.length (l.flatMap f)/\∀ x∈l,Pr x:=by
 intro n cs y h hw;rcases open_slice ht h with⟨rfl,_⟩ | ⟨x,len,cap,m,nf,D,Pl,rfl,_,hl,hm,hmm,hy,hi⟩
 ·exact⟨_,[],rfl,by simp,⟨none,0,rfl⟩,Row.nil_ w k,by simp⟩
 ·have hnm:len<=m:=by rw[hmm];split <;> omega
  rw[hy] at hw;simp only[Rows.uptoBulk] at hw
  have hsm:∀ i,i<len->Rows.uptoBulk (D i)<=1048576:=fun i hin=>by
   have h3:D i∈(List.range len).map D:=ZD.2 ⟨i,List.mem_range.2 hin,rfl⟩;have h4:=zt2 h3;omega
  obtain⟨l,hll,hp⟩:=zt3 (α:=α) (p:=fun i q=>M<=Rows.uptoBulk (D i)/\(∀ j u,(f q)[j]? = some u->w.cell? (x.add (i * k+j))=some u)/\Pr q) len (fun i hin=>by
   obtain⟨cs',hcc,htr⟩:=hi i (by omega)
   rw[hC] at hcc;obtain⟨_,hcl,hat⟩:=World.cells?_some hcc;obtain⟨hM,q,rfl,hq⟩:=hR _ _ _ htr (hsm i hin);refine⟨q,hM,fun j u hu=>?_,hq⟩;have hj:j<k:=by rw[<- hf q];exact (ZR.1 hu).1
   have:=hat j (by omega)
   rw[z01] at this;rw[this];first | exact hu | (simpa using hu))
  refine⟨_,l,rfl,?_,⟨some x,cap,by rw[hll]⟩,?_,fun q hq=>?_⟩
  ·have h5:=all_le (M:=M) (l:=(List.range len).map D) (fun d hd=>by
    obtain⟨i,hi',rfl⟩:=ZD.1 hd;have:=List.mem_range.1 hi';exact (hp i (by omega)).1)
   rw[Zk,List.length_range] at h5;rw[hll];omega
  ·rw[hll];refine⟨_,_,rfl,hl,hm,by rw[z3u f k hf,hll],fun h=>(by cases h),fun hn=>⟨x,rfl,?_,fun j u hu=>?_⟩⟩
   ·have h0:0<(f (l[0]'(by omega))).length:=by rw[hf];exact hk
    have:=(hp 0 (by omega)).2.1 0 _ (Ze h0)
    exact (z00 x _) ▸ z03 this
   ·have hjl:j<len * k:=by have:=(ZR.1 hu).1;rwa [z3u f k hf,hll] at this
    have hq:j / k<l.length:=by rw[hll,Nat.div_lt_iff_lt_mul hk];exact hjl
    have hr:j % k<k:=Nat.mod_lt _ hk;have e1:j / k * k+j % k=j:=by rw[Nat.mul_comm];exact Nat.div_add_mod j k
    have e2:=z3v f k hf l (j / k) (j % k) hq hr;rw[e1,hu] at e2;have:=(hp (j / k) hq).2.1 (j % k) u e2.symm;rwa [e1] at this
  ·obtain⟨i,hil,rfl⟩:=List.mem_iff_getElem.1 hq;exact (hp i hil).2.2
end
section
variable {H : Type} {enc : TypeId × zV -> H}
end
end Go.Proofs.YtlnjaagijaadmaaGreatDoor.upto
