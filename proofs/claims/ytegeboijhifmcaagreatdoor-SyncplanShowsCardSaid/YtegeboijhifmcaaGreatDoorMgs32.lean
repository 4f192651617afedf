/- A part of the proof. -/
import Derived.Test.YtegeboijhifmcaaGreatDoorMgs31
set_option linter.unusedVariables false
set_option linter.unusedSimpArgs false
set_option maxHeartbeats 16000000
set_option maxRecDepth 100000
namespace Go.Proofs.YtegeboijhifmcaaGreatDoor
open Go.Proofs.Tryz
open Go.RowKit
section
variable {u0 u1 u2 u3 u4 u5 u6 u7 u8 u9 gn gt gu gx gy gz gA gC gD gE gF gG gH gI gJ gK gL gM gN gO gP gQ gR gT gV gW gX gY gZ i6 i7 i8 ia ib ic ie ig ii ij ik il im io ip iq ir iu iv iw ix iy iz iA iB iC iD iE iF iG iH iI iJ iK iL iM iN iO iP iQ iR iS iT iU iV iW iX iY iZ j0 j1 j2 j5 j6 j7 j8 j9 jb jd je : Value}
theorem zgh (b:Bool)(v:Value)(A:Option Addr)(n c:Nat)(hv:v=.slice A n c)(w:World):Calls prog 49 #[.bool b,v] w fun e w'=>e=.returned (.agg #[v,.bool b])∧Below w.heap.size w w':=by
 subst hv;have hZ:=z0l w [.slice none 0 0,.bool false] 97;have hA:Below w.heap.size w (w.alloc (.cells #[.slice none 0 0,.bool false] 97)):=(Below.refl _ _).alloc (Nat.le_refl _) _;go_enter func49,ntmps49;go_upto_region 1 with fail;generalize w.alloc (.cells #[.slice none 0 0,.bool false] 97)=W1 at hZ hA ⊢;obtain⟨z0,z1⟩:=(⟨hZ.cell 0,hZ.cell 1⟩:W1.cell? ⟨w.heap.size,0,none⟩=some (.slice none 0 0)∧W1.cell? ⟨w.heap.size,1,none⟩=some (.bool false));obtain⟨y0,y1⟩:=(⟨hZ.frozen 0,hZ.frozen 1⟩:W1.frozen? ⟨w.heap.size,0,none⟩=false∧W1.frozen? ⟨w.heap.size,1,none⟩=false);go_wp2_with fail;have hE:=(hZ.set_ 0 (.slice A n c)).set_ 1 (.bool b);have hb:=(hA.setCell (p:=⟨w.heap.size,0,none⟩) (by simp) (.slice A n c)).setCell (p:=⟨w.heap.size,1,none⟩) (by simp) (.bool b)
 generalize (W1.setCell ⟨w.heap.size,0,none⟩ (.slice A n c)).setCell ⟨w.heap.size,1,none⟩ (.bool b)=W3 at hE hb ⊢;have e0:=hE.cell 0;have e1:=hE.cell 1;exact bodyPost_ret (v:=.agg #[.slice A n c,.bool b]) (by simp [results,results49,go_sem,e0,e1]) rfl ⟨rfl,hb⟩
theorem zgi {wp w1:World}{o:Obj}(hb:Below (wp.alloc o).heap.size (wp.alloc o) w1):Below wp.heap.size wp w1:=z0r ((Below.refl _ _).alloc (Nat.le_refl _) _) hb
theorem zgj {wp w1:World}{cs:List Value}{t:TypeId}(hb:Below (wp.alloc (.cells cs.toArray t)).heap.size (wp.alloc (.cells cs.toArray t)) w1):Blk w1 wp.heap.size t cs:=(z0l wp cs t).below hb (z0l wp cs t).lt
theorem zgk {w:World}{g:Nat}{l:List ByteArray}{b:Bool}{n:Nat}(h:Blk w g 9 (l.map .string))(hn:n=l.length)(hl:l.length≤1000)(hs:∀ x∈l,x.size≤1000000):za9 w (.slice (some ⟨g,0,none⟩) n n) ⟨l,b⟩:=by
 subst hn;exact⟨h.row (size:=1) (n:=l.length) (by rw[List.length_map,Nat.mul_one]) (by unfold maxLen;omega),hs⟩
theorem zgl (w:World):zd2 w (.slice none 0 0) []:=⟨Row.nil_ w 2,fun q h=>by cases h⟩
theorem zgm {w1 w2:World}{n:Nat}{es:List zd8}{cs:List Value}(hb:Below w1.heap.size w1 w2)(hcs:cs=es.flatMap zd8.cells)(hn:n=es.length)(hl:es.length≤1000)
  (he:∀ x∈es,zd9 w2 x):zdi (w2.alloc (.cells cs.toArray 100)) (.slice (some ⟨w2.heap.size,0,none⟩) n n) es∧Below w1.heap.size w1 (w2.alloc (.cells cs.toArray 100)):=by
 subst hcs hn;have ha:Below w2.heap.size w2 (w2.alloc (.cells (es.flatMap zd8.cells).toArray 100)):=(Below.refl _ _).alloc (Nat.le_refl _) _;refine⟨⟨(z0l w2 (es.flatMap zd8.cells) 100).row (size:=5) (n:=es.length) ?_ (by unfold maxLen;omega),fun x hx=>(he x hx).below ha⟩,z0r hb ha⟩
 clear he ha hl hb;induction es with
 | nil=>rfl
 | cons x es ih=>rw[List.flatMap_cons,List.length_append,ih,List.length_cons];show 5+_=_;omega
theorem mpR3 (ops:Array Oper)(hops:Tryz.f25.body.bind (zci 3)=some ops)(Q:Exit→Act→World→Prop)(w1:World)
  (hQ:∀(t7 t8 t9 ed ef ei:Value) (es:List zd8) (A':Option Addr) (n c:Nat) (w':World),Hid (es.map zd8.pl=zg3 0∧zdi w' (.slice A' n c) es∧Below w1.heap.size w1 w')→Q .normal ⟨#[u0,u1,.slice A' n c,u3,u4,u5,u6,t7,t8,t9,ed,ef,ei,gx,gy,gz,gA,gC,gD,gE,gF,gG,gH,gI,gJ,gK,gL,gM,gN,gO,gP,gQ,gR,gT,gV,gW,gX,gY,gZ,i6,i7,i8,ia,ib,ic,ie,ig,ii,ij,ik,il,im,io,ip,iq,ir,iu,iv,iw,ix,iy,iz,iA,iB,iC,iD,iE,iF,iG,iH,iI,iJ,iK,iL,iM,iN,iO,iP,iQ,iR,iS,iT,iU,iV,iW,iX,iY,iZ,j0,j1,j2,j5,j6,j7,j8,j9,jb,jd,je],[]⟩ w'):
  (Code.region 3 ops false).wp prog Q ⟨#[u0,u1,u2,u3,u4,u5,u6,u7,u8,u9,gn,gt,gu,gx,gy,gz,gA,gC,gD,gE,gF,gG,gH,gI,gJ,gK,gL,gM,gN,gO,gP,gQ,gR,gT,gV,gW,gX,gY,gZ,i6,i7,i8,ia,ib,ic,ie,ig,ii,ij,ik,il,im,io,ip,iq,ir,iu,iv,iw,ix,iy,iz,iA,iB,iC,iD,iE,iF,iG,iH,iI,iJ,iK,iL,iM,iN,iO,iP,iQ,iR,iS,iT,iU,iV,iW,iX,iY,iZ,j0,j1,j2,j5,j6,j7,j8,j9,jb,jd,je],[]⟩ w1:=by
 simp only[Tryz.f25,Option.bind_some,zci] at hops
 simp at hops
 subst hops;have HQ:=hd_ hQ;clear hQ;have HB0:Hid (Below w1.heap.size w1 w1):=hd_ (Below.refl _ _);go_wp2_with fail;refine (zgh _ _ _ _ _ rfl _).mono ?_;rintro e w2 ⟨rfl,hb⟩;dsimp only;have HP1:=hd_ (zgj (cs:=[.string ⟨#[100]⟩]) hb);have HB1:=hd_ (z0r HB0.out (zgi hb));clear hb;go_wp2_with fail;refine (zgh _ _ _ _ _ rfl _).mono ?_;rintro e w3 ⟨rfl,hb⟩;dsimp only;have HP2:=hd_ (zgj (cs:=[.string ⟨#[99]⟩]) hb);have HP1:=hd_ (HP1.out.below (zgi hb) HP1.out.lt);have HB2:=hd_ (z0r HB1.out (zgi hb));clear hb;go_wp2_with fail;have H:=zgm (w2:=w3) (n:=1) (cs:=[.slice (some ⟨w1.heap.size,0,none⟩) 1 1,.bool true,.slice (some ⟨w2.heap.size,0,none⟩) 1 1,.bool true,.slice none 0 0]) (es:=([⟨(⟨[zg1 100],true⟩,some ⟨w1.heap.size,0,none⟩,1),(⟨[zg1 99],true⟩,some ⟨w2.heap.size,0,none⟩,1),.slice none 0 0,[]⟩]:List zd8)) HB2.out rfl rfl (by show 1≤1000;omega) (by
  intro x hx;simp only[List.mem_cons,List.not_mem_nil,or_false] at hx
  subst hx;exact⟨zgk (l:=[zg1 100]) HP1.out rfl (by decide) (by decide),zgk (l:=[zg1 99]) HP2.out rfl (by decide) (by decide),zgl _,Nat.zero_le _⟩)
 exact HQ.out _ _ _ _ _ _ _ _ _ _ _ (hd_ ⟨rfl,H.1,H.2⟩)
theorem mpR5 (ops:Array Oper)(hops:Tryz.f25.body.bind (zci 5)=some ops)(Q:Exit→Act→World→Prop)(w1:World)
  (hQ:∀(el em en eo er et eu ez eA:Value) (es:List zd8) (A':Option Addr) (n c:Nat) (w':World),Hid (es.map zd8.pl=zg3 1∧zdi w' (.slice A' n c) es∧Below w1.heap.size w1 w')→Q .normal ⟨#[u0,u1,.slice A' n c,u3,u4,u5,u6,u7,u8,u9,gn,gt,gu,gx,gy,el,em,en,eo,er,et,eu,ez,eA,gJ,gK,gL,gM,gN,gO,gP,gQ,gR,gT,gV,gW,gX,gY,gZ,i6,i7,i8,ia,ib,ic,ie,ig,ii,ij,ik,il,im,io,ip,iq,ir,iu,iv,iw,ix,iy,iz,iA,iB,iC,iD,iE,iF,iG,iH,iI,iJ,iK,iL,iM,iN,iO,iP,iQ,iR,iS,iT,iU,iV,iW,iX,iY,iZ,j0,j1,j2,j5,j6,j7,j8,j9,jb,jd,je],[]⟩ w'):
  (Code.region 5 ops false).wp prog Q ⟨#[u0,u1,u2,u3,u4,u5,u6,u7,u8,u9,gn,gt,gu,gx,gy,gz,gA,gC,gD,gE,gF,gG,gH,gI,gJ,gK,gL,gM,gN,gO,gP,gQ,gR,gT,gV,gW,gX,gY,gZ,i6,i7,i8,ia,ib,ic,ie,ig,ii,ij,ik,il,im,io,ip,iq,ir,iu,iv,iw,ix,iy,iz,iA,iB,iC,iD,iE,iF,iG,iH,iI,iJ,iK,iL,iM,iN,iO,iP,iQ,iR,iS,iT,iU,iV,iW,iX,iY,iZ,j0,j1,j2,j5,j6,j7,j8,j9,jb,jd,je],[]⟩ w1:=by
 simp only[Tryz.f25,Option.bind_some,zci] at hops
 simp at hops
 subst hops;have HQ:=hd_ hQ;clear hQ;have HB0:Hid (Below w1.heap.size w1 w1):=hd_ (Below.refl _ _);go_wp2_with fail;refine (zgh _ _ _ _ _ rfl _).mono ?_;rintro e w2 ⟨rfl,hb⟩;dsimp only;have HP1:=hd_ (zgj (cs:=[.string ⟨#[100]⟩]) hb);have HB1:=hd_ (z0r HB0.out (zgi hb));clear hb;go_wp2_with fail;refine (zgh _ _ _ _ _ rfl _).mono ?_;rintro e w3 ⟨rfl,hb⟩;dsimp only;have HP2:=hd_ (zgj (cs:=[.string ⟨#[99]⟩]) hb);have HP1:=hd_ (HP1.out.below (zgi hb) HP1.out.lt);have HB2:=hd_ (z0r HB1.out (zgi hb));clear hb;go_wp2_with fail;refine (zgh _ _ _ _ _ rfl _).mono ?_;rintro e w4 ⟨rfl,hb⟩;dsimp only;have HP3:=hd_ (zgj (cs:=[.string ⟨#[100]⟩,.string ⟨#[120]⟩]) hb);have HP1:=hd_ (HP1.out.below (zgi hb) HP1.out.lt);have HP2:=hd_ (HP2.out.below (zgi hb) HP2.out.lt);have HB3:=hd_ (z0r HB2.out (zgi hb));clear hb;go_wp2_with fail;have HB9:Hid (Below w1.heap.size w1 (w4.alloc (.cells #[.slice (some ⟨w3.heap.size,0,none⟩) 2 2,.bool true] 97))):=hd_ (z0r HB3.out ((Below.refl _ _).alloc (Nat.le_refl _) _));have HH9:=hd_ (z0l w4 [.slice (some ⟨w3.heap.size,0,none⟩) 2 2,.bool true] 97);have HP1:=hd_ (HP1.out.alloc (.cells #[.slice (some ⟨w3.heap.size,0,none⟩) 2 2,.bool true] 97));have HP2:=hd_ (HP2.out.alloc (.cells #[.slice (some ⟨w3.heap.size,0,none⟩) 2 2,.bool true] 97));have HP3:=hd_ (HP3.out.alloc (.cells #[.slice (some ⟨w3.heap.size,0,none⟩) 2 2,.bool true] 97));have H:=zgm (w2:=(w4.alloc (.cells #[.slice (some ⟨w3.heap.size,0,none⟩) 2 2,.bool true] 97))) (n:=1) (cs:=[.slice (some ⟨w1.heap.size,0,none⟩) 1 1,.bool true,.slice (some ⟨w2.heap.size,0,none⟩) 1 1,.bool true,.slice (some ⟨w4.heap.size,0,none⟩) 1 1]) (es:=([⟨(⟨[zg1 100],true⟩,some ⟨w1.heap.size,0,none⟩,1),(⟨[zg1 99],true⟩,some ⟨w2.heap.size,0,none⟩,1),.slice (some ⟨w4.heap.size,0,none⟩) 1 1,[(⟨[zg1 100,zg1 120],true⟩,some ⟨w3.heap.size,0,none⟩,2)]⟩]:List zd8)) HB9.out rfl rfl (by show 1≤1000;omega) (by
  intro x hx;simp only[List.mem_cons,List.not_mem_nil,or_false] at hx
  subst hx;exact⟨zgk (l:=[zg1 100]) HP1.out rfl (by decide) (by decide),zgk (l:=[zg1 99]) HP2.out rfl (by decide) (by decide),⟨HH9.out.row (size:=2) (n:=1) rfl (by decide),fun q hq=>by rw[List.mem_singleton] at hq;subst hq;exact zgk (l:=[zg1 100,zg1 120]) HP3.out rfl (by decide) (by decide)⟩,(by show 1≤1000;omega)⟩)
 simp only[World.size_alloc] at H
 exact HQ.out _ _ _ _ _ _ _ _ _ _ _ _ _ _ (hd_ ⟨rfl,H.1,H.2⟩)
theorem mpR7 (ops:Array Oper)(hops:Tryz.f25.body.bind (zci 7)=some ops)(Q:Exit→Act→World→Prop)(w1:World)
  (hQ:∀(eD eE eF eG eH eI eJ eK eL eM eN:Value) (es:List zd8) (A':Option Addr) (n c:Nat) (w':World),Hid (es.map zd8.pl=zg3 2∧zdi w' (.slice A' n c) es∧Below w1.heap.size w1 w')→Q .normal ⟨#[u0,u1,.slice A' n c,u3,u4,u5,u6,u7,u8,u9,gn,gt,gu,gx,gy,gz,gA,gC,gD,gE,gF,gG,gH,gI,gJ,gK,eD,eE,eF,eG,eH,eI,eJ,eK,eL,eM,eN,gY,gZ,i6,i7,i8,ia,ib,ic,ie,ig,ii,ij,ik,il,im,io,ip,iq,ir,iu,iv,iw,ix,iy,iz,iA,iB,iC,iD,iE,iF,iG,iH,iI,iJ,iK,iL,iM,iN,iO,iP,iQ,iR,iS,iT,iU,iV,iW,iX,iY,iZ,j0,j1,j2,j5,j6,j7,j8,j9,jb,jd,je],[]⟩ w'):
  (Code.region 7 ops false).wp prog Q ⟨#[u0,u1,u2,u3,u4,u5,u6,u7,u8,u9,gn,gt,gu,gx,gy,gz,gA,gC,gD,gE,gF,gG,gH,gI,gJ,gK,gL,gM,gN,gO,gP,gQ,gR,gT,gV,gW,gX,gY,gZ,i6,i7,i8,ia,ib,ic,ie,ig,ii,ij,ik,il,im,io,ip,iq,ir,iu,iv,iw,ix,iy,iz,iA,iB,iC,iD,iE,iF,iG,iH,iI,iJ,iK,iL,iM,iN,iO,iP,iQ,iR,iS,iT,iU,iV,iW,iX,iY,iZ,j0,j1,j2,j5,j6,j7,j8,j9,jb,jd,je],[]⟩ w1:=by
 simp only[Tryz.f25,Option.bind_some,zci] at hops
 simp at hops
 subst hops;have HQ:=hd_ hQ;clear hQ;have HB0:Hid (Below w1.heap.size w1 w1):=hd_ (Below.refl _ _);go_wp2_with fail;refine (zgh _ _ _ _ _ rfl _).mono ?_;rintro e w2 ⟨rfl,hb⟩;dsimp only;have HP1:=hd_ (zgj (cs:=[.string ⟨#[100]⟩,.string ⟨#[120]⟩]) hb);have HB1:=hd_ (z0r HB0.out (zgi hb));clear hb;go_wp2_with fail;refine (zgh _ _ _ _ _ rfl _).mono ?_;rintro e w3 ⟨rfl,hb⟩;dsimp only;have HP2:=hd_ (zgj (cs:=[.string ⟨#[99]⟩]) hb);have HP1:=hd_ (HP1.out.below (zgi hb) HP1.out.lt);have HB2:=hd_ (z0r HB1.out (zgi hb));clear hb;go_wp2_with fail;refine (zgh _ _ _ _ _ rfl _).mono ?_;rintro e w4 ⟨rfl,hb⟩;dsimp only;have HP3:=hd_ (zgj (cs:=[.string ⟨#[101]⟩]) hb);have HP1:=hd_ (HP1.out.below (zgi hb) HP1.out.lt);have HP2:=hd_ (HP2.out.below (zgi hb) HP2.out.lt);have HB3:=hd_ (z0r HB2.out (zgi hb));clear hb;go_wp2_with fail;refine (zgh _ _ _ _ _ rfl _).mono ?_;rintro e w5 ⟨rfl,hb⟩;dsimp only;have HP4:=hd_ (zgj (cs:=[.string ⟨#[119]⟩]) hb);have HP1:=hd_ (HP1.out.below (zgi hb) HP1.out.lt);have HP2:=hd_ (HP2.out.below (zgi hb) HP2.out.lt);have HP3:=hd_ (HP3.out.below (zgi hb) HP3.out.lt);have HB4:=hd_ (z0r HB3.out (zgi hb));clear hb;go_wp2_with fail;have H:=zgm (w2:=w5) (n:=2) (cs:=[.slice (some ⟨w1.heap.size,0,none⟩) 2 2,.bool true,.slice (some ⟨w2.heap.size,0,none⟩) 1 1,.bool true,.slice none 0 0,.slice (some ⟨w3.heap.size,0,none⟩) 1 1,.bool true,.slice (some ⟨w4.heap.size,0,none⟩) 1 1,.bool true,.slice none 0 0]) (es:=([⟨(⟨[zg1 100,zg1 120],true⟩,some ⟨w1.heap.size,0,none⟩,2),(⟨[zg1 99],true⟩,some ⟨w2.heap.size,0,none⟩,1),.slice none 0 0,[]⟩,⟨(⟨[zg1 101],true⟩,some ⟨w3.heap.size,0,none⟩,1),(⟨[zg1 119],true⟩,some ⟨w4.heap.size,0,none⟩,1),.slice none 0 0,[]⟩]:List zd8)) HB4.out rfl rfl (by show 2≤1000;omega) (by
  intro x hx;simp only[List.mem_cons,List.not_mem_nil,or_false] at hx
  rcases hx with rfl | rfl
  ·exact⟨zgk (l:=[zg1 100,zg1 120]) HP1.out rfl (by decide) (by decide),zgk (l:=[zg1 99]) HP2.out rfl (by decide) (by decide),zgl _,Nat.zero_le _⟩
  ·exact⟨zgk (l:=[zg1 101]) HP3.out rfl (by decide) (by decide),zgk (l:=[zg1 119]) HP4.out rfl (by decide) (by decide),zgl _,Nat.zero_le _⟩)
 exact HQ.out _ _ _ _ _ _ _ _ _ _ _ _ _ _ _ _ (hd_ ⟨rfl,H.1,H.2⟩)
theorem mpR9 (ops:Array Oper)(hops:Tryz.f25.body.bind (zci 9)=some ops)(Q:Exit→Act→World→Prop)(w1:World)
  (hQ:∀(eQ eR eS eT eU eV eW eX eY eZ fa fd fe ff fg fh:Value) (es:List zd8) (A':Option Addr) (n c:Nat) (w':World),Hid (es.map zd8.pl=zg3 3∧zdi w' (.slice A' n c) es∧Below w1.heap.size w1 w')→Q .normal ⟨#[u0,u1,.slice A' n c,u3,u4,u5,u6,u7,u8,u9,gn,gt,gu,gx,gy,gz,gA,gC,gD,gE,gF,gG,gH,gI,gJ,gK,gL,gM,gN,gO,gP,gQ,gR,gT,gV,gW,gX,gY,gZ,eQ,eR,eS,eT,eU,eV,eW,eX,eY,eZ,fa,fd,fe,ff,fg,fh,ir,iu,iv,iw,ix,iy,iz,iA,iB,iC,iD,iE,iF,iG,iH,iI,iJ,iK,iL,iM,iN,iO,iP,iQ,iR,iS,iT,iU,iV,iW,iX,iY,iZ,j0,j1,j2,j5,j6,j7,j8,j9,jb,jd,je],[]⟩ w'):
  (Code.region 9 ops false).wp prog Q ⟨#[u0,u1,u2,u3,u4,u5,u6,u7,u8,u9,gn,gt,gu,gx,gy,gz,gA,gC,gD,gE,gF,gG,gH,gI,gJ,gK,gL,gM,gN,gO,gP,gQ,gR,gT,gV,gW,gX,gY,gZ,i6,i7,i8,ia,ib,ic,ie,ig,ii,ij,ik,il,im,io,ip,iq,ir,iu,iv,iw,ix,iy,iz,iA,iB,iC,iD,iE,iF,iG,iH,iI,iJ,iK,iL,iM,iN,iO,iP,iQ,iR,iS,iT,iU,iV,iW,iX,iY,iZ,j0,j1,j2,j5,j6,j7,j8,j9,jb,jd,je],[]⟩ w1:=by
 simp only[Tryz.f25,Option.bind_some,zci] at hops
 simp at hops
 subst hops;have HQ:=hd_ hQ;clear hQ;have HB0:Hid (Below w1.heap.size w1 w1):=hd_ (Below.refl _ _);go_wp2_with fail;refine (zgh _ _ _ _ _ rfl _).mono ?_;rintro e w2 ⟨rfl,hb⟩;dsimp only;have HP1:=hd_ (zgj (cs:=[.string ⟨#[100]⟩,.string ⟨#[97]⟩]) hb);have HB1:=hd_ (z0r HB0.out (zgi hb));clear hb;go_wp2_with fail;refine (zgh _ _ _ _ _ rfl _).mono ?_;rintro e w3 ⟨rfl,hb⟩;dsimp only;have HP2:=hd_ (zgj (cs:=[.string ⟨#[99]⟩,.string ⟨#[98]⟩]) hb);have HP1:=hd_ (HP1.out.below (zgi hb) HP1.out.lt);have HB2:=hd_ (z0r HB1.out (zgi hb));clear hb;go_wp2_with fail;refine (zgh _ _ _ _ _ rfl _).mono ?_;rintro e w4 ⟨rfl,hb⟩;dsimp only;have HP3:=hd_ (zgj (cs:=[.string ⟨#[100]⟩,.string ⟨#[98]⟩]) hb);have HP1:=hd_ (HP1.out.below (zgi hb) HP1.out.lt);have HP2:=hd_ (HP2.out.below (zgi hb) HP2.out.lt);have HB3:=hd_ (z0r HB2.out (zgi hb));clear hb;go_wp2_with fail;refine (zgh _ _ _ _ _ rfl _).mono ?_;rintro e w5 ⟨rfl,hb⟩;dsimp only;have HP4:=hd_ (zgj (cs:=[.string ⟨#[99]⟩,.string ⟨#[97]⟩]) hb);have HP1:=hd_ (HP1.out.below (zgi hb) HP1.out.lt);have HP2:=hd_ (HP2.out.below (zgi hb) HP2.out.lt);have HP3:=hd_ (HP3.out.below (zgi hb) HP3.out.lt);have HB4:=hd_ (z0r HB3.out (zgi hb));clear hb;go_wp2_with fail;refine (zgh _ _ _ _ _ rfl _).mono ?_;rintro e w6 ⟨rfl,hb⟩;dsimp only;have HP5:=hd_ (zgj (cs:=[.string ⟨#[100]⟩,.string ⟨#[120]⟩]) hb);have HP1:=hd_ (HP1.out.below (zgi hb) HP1.out.lt);have HP2:=hd_ (HP2.out.below (zgi hb) HP2.out.lt);have HP3:=hd_ (HP3.out.below (zgi hb) HP3.out.lt);have HP4:=hd_ (HP4.out.below (zgi hb) HP4.out.lt);have HB5:=hd_ (z0r HB4.out (zgi hb));clear hb;go_wp2_with fail;refine (zgh _ _ _ _ _ rfl _).mono ?_;rintro e w7 ⟨rfl,hb⟩;dsimp only;have HP6:=hd_ (zgj (cs:=[.string ⟨#[99]⟩,.string ⟨#[120]⟩]) hb);have HP1:=hd_ (HP1.out.below (zgi hb) HP1.out.lt);have HP2:=hd_ (HP2.out.below (zgi hb) HP2.out.lt);have HP3:=hd_ (HP3.out.below (zgi hb) HP3.out.lt);have HP4:=hd_ (HP4.out.below (zgi hb) HP4.out.lt);have HP5:=hd_ (HP5.out.below (zgi hb) HP5.out.lt);have HB6:=hd_ (z0r HB5.out (zgi hb))
 clear hb;go_wp2_with fail;have H:=zgm (w2:=w7) (n:=3) (cs:=[.slice (some ⟨w1.heap.size,0,none⟩) 2 2,.bool false,.slice (some ⟨w2.heap.size,0,none⟩) 2 2,.bool false,.slice none 0 0,.slice (some ⟨w3.heap.size,0,none⟩) 2 2,.bool false,.slice (some ⟨w4.heap.size,0,none⟩) 2 2,.bool false,.slice none 0 0,.slice (some ⟨w5.heap.size,0,none⟩) 2 2,.bool true,.slice (some ⟨w6.heap.size,0,none⟩) 2 2,.bool true,.slice none 0 0]) (es:=([⟨(⟨[zg1 100,zg1 97],false⟩,some ⟨w1.heap.size,0,none⟩,2),(⟨[zg1 99,zg1 98],false⟩,some ⟨w2.heap.size,0,none⟩,2),.slice none 0 0,[]⟩,⟨(⟨[zg1 100,zg1 98],false⟩,some ⟨w3.heap.size,0,none⟩,2),(⟨[zg1 99,zg1 97],false⟩,some ⟨w4.heap.size,0,none⟩,2),.slice none 0 0,[]⟩,⟨(⟨[zg1 100,zg1 120],true⟩,some ⟨w5.heap.size,0,none⟩,2),(⟨[zg1 99,zg1 120],true⟩,some ⟨w6.heap.size,0,none⟩,2),.slice none 0 0,[]⟩]:List zd8)) HB6.out rfl rfl (by show 3≤1000;omega) (by
  intro x hx;simp only[List.mem_cons,List.not_mem_nil,or_false] at hx
  rcases hx with rfl | rfl | rfl
  ·exact⟨zgk (l:=[zg1 100,zg1 97]) HP1.out rfl (by decide) (by decide),zgk (l:=[zg1 99,zg1 98]) HP2.out rfl (by decide) (by decide),zgl _,Nat.zero_le _⟩
  ·exact⟨zgk (l:=[zg1 100,zg1 98]) HP3.out rfl (by decide) (by decide),zgk (l:=[zg1 99,zg1 97]) HP4.out rfl (by decide) (by decide),zgl _,Nat.zero_le _⟩
  ·exact⟨zgk (l:=[zg1 100,zg1 120]) HP5.out rfl (by decide) (by decide),zgk (l:=[zg1 99,zg1 120]) HP6.out rfl (by decide) (by decide),zgl _,Nat.zero_le _⟩)
 exact HQ.out _ _ _ _ _ _ _ _ _ _ _ _ _ _ _ _ _ _ _ _ _ (hd_ ⟨rfl,H.1,H.2⟩)
theorem mpR11 (ops:Array Oper)(hops:Tryz.f25.body.bind (zci 11)=some ops)(Q:Exit→Act→World→Prop)(w1:World)
  (hQ:∀(fm fp fq ft fu fv fw fx fy fA fB fC fD fE fF fG:Value) (es:List zd8) (A':Option Addr) (n c:Nat) (w':World),Hid (es.map zd8.pl=zg3 4∧zdi w' (.slice A' n c) es∧Below w1.heap.size w1 w')→Q .normal ⟨#[u0,u1,.slice A' n c,u3,u4,u5,u6,u7,u8,u9,gn,gt,gu,gx,gy,gz,gA,gC,gD,gE,gF,gG,gH,gI,gJ,gK,gL,gM,gN,gO,gP,gQ,gR,gT,gV,gW,gX,gY,gZ,i6,i7,i8,ia,ib,ic,ie,ig,ii,ij,ik,il,im,io,ip,iq,ir,iu,fm,fp,fq,ft,fu,fv,fw,fx,fy,fA,fB,fC,fD,fE,fF,fG,iL,iM,iN,iO,iP,iQ,iR,iS,iT,iU,iV,iW,iX,iY,iZ,j0,j1,j2,j5,j6,j7,j8,j9,jb,jd,je],[]⟩ w'):
  (Code.region 11 ops false).wp prog Q ⟨#[u0,u1,u2,u3,u4,u5,u6,u7,u8,u9,gn,gt,gu,gx,gy,gz,gA,gC,gD,gE,gF,gG,gH,gI,gJ,gK,gL,gM,gN,gO,gP,gQ,gR,gT,gV,gW,gX,gY,gZ,i6,i7,i8,ia,ib,ic,ie,ig,ii,ij,ik,il,im,io,ip,iq,ir,iu,iv,iw,ix,iy,iz,iA,iB,iC,iD,iE,iF,iG,iH,iI,iJ,iK,iL,iM,iN,iO,iP,iQ,iR,iS,iT,iU,iV,iW,iX,iY,iZ,j0,j1,j2,j5,j6,j7,j8,j9,jb,jd,je],[]⟩ w1:=by
 simp only[Tryz.f25,Option.bind_some,zci] at hops
 simp at hops
 subst hops;have HQ:=hd_ hQ;clear hQ;have HB0:Hid (Below w1.heap.size w1 w1):=hd_ (Below.refl _ _);go_wp2_with fail;refine (zgh _ _ _ _ _ rfl _).mono ?_;rintro e w2 ⟨rfl,hb⟩;dsimp only;have HP1:=hd_ (zgj (cs:=[.string ⟨#[100]⟩,.string ⟨#[97]⟩]) hb);have HB1:=hd_ (z0r HB0.out (zgi hb));clear hb;go_wp2_with fail;refine (zgh _ _ _ _ _ rfl _).mono ?_;rintro e w3 ⟨rfl,hb⟩;dsimp only;have HP2:=hd_ (zgj (cs:=[.string ⟨#[99]⟩,.string ⟨#[97]⟩]) hb);have HP1:=hd_ (HP1.out.below (zgi hb) HP1.out.lt);have HB2:=hd_ (z0r HB1.out (zgi hb));clear hb;go_wp2_with fail;refine (zgh _ _ _ _ _ rfl _).mono ?_;rintro e w4 ⟨rfl,hb⟩;dsimp only;have HP3:=hd_ (zgj (cs:=[.string ⟨#[100]⟩,.string ⟨#[98]⟩]) hb);have HP1:=hd_ (HP1.out.below (zgi hb) HP1.out.lt);have HP2:=hd_ (HP2.out.below (zgi hb) HP2.out.lt);have HB3:=hd_ (z0r HB2.out (zgi hb));clear hb;go_wp2_with fail;refine (zgh _ _ _ _ _ rfl _).mono ?_;rintro e w5 ⟨rfl,hb⟩;dsimp only;have HP4:=hd_ (zgj (cs:=[.string ⟨#[99]⟩,.string ⟨#[98]⟩]) hb);have HP1:=hd_ (HP1.out.below (zgi hb) HP1.out.lt);have HP2:=hd_ (HP2.out.below (zgi hb) HP2.out.lt);have HP3:=hd_ (HP3.out.below (zgi hb) HP3.out.lt);have HB4:=hd_ (z0r HB3.out (zgi hb));clear hb;go_wp2_with fail;refine (zgh _ _ _ _ _ rfl _).mono ?_;rintro e w6 ⟨rfl,hb⟩;dsimp only;have HP5:=hd_ (zgj (cs:=[.string ⟨#[101]⟩,.string ⟨#[97]⟩]) hb);have HP1:=hd_ (HP1.out.below (zgi hb) HP1.out.lt);have HP2:=hd_ (HP2.out.below (zgi hb) HP2.out.lt);have HP3:=hd_ (HP3.out.below (zgi hb) HP3.out.lt);have HP4:=hd_ (HP4.out.below (zgi hb) HP4.out.lt);have HB5:=hd_ (z0r HB4.out (zgi hb));clear hb;go_wp2_with fail;refine (zgh _ _ _ _ _ rfl _).mono ?_;rintro e w7 ⟨rfl,hb⟩;dsimp only;have HP6:=hd_ (zgj (cs:=[.string ⟨#[99]⟩,.string ⟨#[101]⟩]) hb);have HP1:=hd_ (HP1.out.below (zgi hb) HP1.out.lt);have HP2:=hd_ (HP2.out.below (zgi hb) HP2.out.lt);have HP3:=hd_ (HP3.out.below (zgi hb) HP3.out.lt);have HP4:=hd_ (HP4.out.below (zgi hb) HP4.out.lt);have HP5:=hd_ (HP5.out.below (zgi hb) HP5.out.lt);have HB6:=hd_ (z0r HB5.out (zgi hb))
 clear hb;go_wp2_with fail;have H:=zgm (w2:=w7) (n:=3) (cs:=[.slice (some ⟨w1.heap.size,0,none⟩) 2 2,.bool false,.slice (some ⟨w2.heap.size,0,none⟩) 2 2,.bool false,.slice none 0 0,.slice (some ⟨w3.heap.size,0,none⟩) 2 2,.bool false,.slice (some ⟨w4.heap.size,0,none⟩) 2 2,.bool false,.slice none 0 0,.slice (some ⟨w5.heap.size,0,none⟩) 2 2,.bool false,.slice (some ⟨w6.heap.size,0,none⟩) 2 2,.bool false,.slice none 0 0]) (es:=([⟨(⟨[zg1 100,zg1 97],false⟩,some ⟨w1.heap.size,0,none⟩,2),(⟨[zg1 99,zg1 97],false⟩,some ⟨w2.heap.size,0,none⟩,2),.slice none 0 0,[]⟩,⟨(⟨[zg1 100,zg1 98],false⟩,some ⟨w3.heap.size,0,none⟩,2),(⟨[zg1 99,zg1 98],false⟩,some ⟨w4.heap.size,0,none⟩,2),.slice none 0 0,[]⟩,⟨(⟨[zg1 101,zg1 97],false⟩,some ⟨w5.heap.size,0,none⟩,2),(⟨[zg1 99,zg1 101],false⟩,some ⟨w6.heap.size,0,none⟩,2),.slice none 0 0,[]⟩]:List zd8)) HB6.out rfl rfl (by show 3≤1000;omega) (by
  intro x hx;simp only[List.mem_cons,List.not_mem_nil,or_false] at hx
  rcases hx with rfl | rfl | rfl
  ·exact⟨zgk (l:=[zg1 100,zg1 97]) HP1.out rfl (by decide) (by decide),zgk (l:=[zg1 99,zg1 97]) HP2.out rfl (by decide) (by decide),zgl _,Nat.zero_le _⟩
  ·exact⟨zgk (l:=[zg1 100,zg1 98]) HP3.out rfl (by decide) (by decide),zgk (l:=[zg1 99,zg1 98]) HP4.out rfl (by decide) (by decide),zgl _,Nat.zero_le _⟩
  ·exact⟨zgk (l:=[zg1 101,zg1 97]) HP5.out rfl (by decide) (by decide),zgk (l:=[zg1 99,zg1 101]) HP6.out rfl (by decide) (by decide),zgl _,Nat.zero_le _⟩)
 exact HQ.out _ _ _ _ _ _ _ _ _ _ _ _ _ _ _ _ _ _ _ _ _ (hd_ ⟨rfl,H.1,H.2⟩)
theorem mpR13 (ops:Array Oper)(hops:Tryz.f25.body.bind (zci 13)=some ops)(Q:Exit→Act→World→Prop)(w1:World)
  (hQ:∀(fJ fK fL fM fN fO fP fQ fR fS fT:Value) (es:List zd8) (A':Option Addr) (n c:Nat) (w':World),Hid (es.map zd8.pl=zg3 5∧zdi w' (.slice A' n c) es∧Below w1.heap.size w1 w')→Q .normal ⟨#[u0,u1,.slice A' n c,u3,u4,u5,u6,u7,u8,u9,gn,gt,gu,gx,gy,gz,gA,gC,gD,gE,gF,gG,gH,gI,gJ,gK,gL,gM,gN,gO,gP,gQ,gR,gT,gV,gW,gX,gY,gZ,i6,i7,i8,ia,ib,ic,ie,ig,ii,ij,ik,il,im,io,ip,iq,ir,iu,iv,iw,ix,iy,iz,iA,iB,iC,iD,iE,iF,iG,iH,iI,iJ,iK,iL,iM,fJ,fK,fL,fM,fN,fO,fP,fQ,fR,fS,fT,iY,iZ,j0,j1,j2,j5,j6,j7,j8,j9,jb,jd,je],[]⟩ w'):
  (Code.region 13 ops false).wp prog Q ⟨#[u0,u1,u2,u3,u4,u5,u6,u7,u8,u9,gn,gt,gu,gx,gy,gz,gA,gC,gD,gE,gF,gG,gH,gI,gJ,gK,gL,gM,gN,gO,gP,gQ,gR,gT,gV,gW,gX,gY,gZ,i6,i7,i8,ia,ib,ic,ie,ig,ii,ij,ik,il,im,io,ip,iq,ir,iu,iv,iw,ix,iy,iz,iA,iB,iC,iD,iE,iF,iG,iH,iI,iJ,iK,iL,iM,iN,iO,iP,iQ,iR,iS,iT,iU,iV,iW,iX,iY,iZ,j0,j1,j2,j5,j6,j7,j8,j9,jb,jd,je],[]⟩ w1:=by
 simp only[Tryz.f25,Option.bind_some,zci] at hops
 simp at hops
 subst hops;have HQ:=hd_ hQ;clear hQ;have HB0:Hid (Below w1.heap.size w1 w1):=hd_ (Below.refl _ _);go_wp2_with fail;refine (zgh _ _ _ _ _ rfl _).mono ?_;rintro e w2 ⟨rfl,hb⟩;dsimp only;have HP1:=hd_ (zgj (cs:=[.string ⟨#[101]⟩]) hb);have HB1:=hd_ (z0r HB0.out (zgi hb));clear hb;go_wp2_with fail;refine (zgh _ _ _ _ _ rfl _).mono ?_;rintro e w3 ⟨rfl,hb⟩;dsimp only;have HP2:=hd_ (zgj (cs:=[.string ⟨#[99]⟩]) hb);have HP1:=hd_ (HP1.out.below (zgi hb) HP1.out.lt);have HB2:=hd_ (z0r HB1.out (zgi hb));clear hb;go_wp2_with fail;refine (zgh _ _ _ _ _ rfl _).mono ?_;rintro e w4 ⟨rfl,hb⟩;dsimp only;have HP3:=hd_ (zgj (cs:=[.string ⟨#[100]⟩,.string ⟨#[42]⟩,.string ⟨#[97]⟩]) hb);have HP1:=hd_ (HP1.out.below (zgi hb) HP1.out.lt);have HP2:=hd_ (HP2.out.below (zgi hb) HP2.out.lt);have HB3:=hd_ (z0r HB2.out (zgi hb));clear hb;go_wp2_with fail;refine (zgh _ _ _ _ _ rfl _).mono ?_;rintro e w5 ⟨rfl,hb⟩;dsimp only;have HP4:=hd_ (zgj (cs:=[.string ⟨#[119]⟩,.string ⟨#[42]⟩,.string ⟨#[122]⟩]) hb);have HP1:=hd_ (HP1.out.below (zgi hb) HP1.out.lt);have HP2:=hd_ (HP2.out.below (zgi hb) HP2.out.lt);have HP3:=hd_ (HP3.out.below (zgi hb) HP3.out.lt);have HB4:=hd_ (z0r HB3.out (zgi hb));clear hb;go_wp2_with fail;have H:=zgm (w2:=w5) (n:=2) (cs:=[.slice (some ⟨w1.heap.size,0,none⟩) 1 1,.bool true,.slice (some ⟨w2.heap.size,0,none⟩) 1 1,.bool true,.slice none 0 0,.slice (some ⟨w3.heap.size,0,none⟩) 3 3,.bool false,.slice (some ⟨w4.heap.size,0,none⟩) 3 3,.bool false,.slice none 0 0]) (es:=([⟨(⟨[zg1 101],true⟩,some ⟨w1.heap.size,0,none⟩,1),(⟨[zg1 99],true⟩,some ⟨w2.heap.size,0,none⟩,1),.slice none 0 0,[]⟩,⟨(⟨[zg1 100,zg2,zg1 97],false⟩,some ⟨w3.heap.size,0,none⟩,3),(⟨[zg1 119,zg2,zg1 122],false⟩,some ⟨w4.heap.size,0,none⟩,3),.slice none 0 0,[]⟩]:List zd8)) HB4.out rfl rfl (by show 2≤1000;omega) (by
  intro x hx;simp only[List.mem_cons,List.not_mem_nil,or_false] at hx
  rcases hx with rfl | rfl
  ·exact⟨zgk (l:=[zg1 101]) HP1.out rfl (by decide) (by decide),zgk (l:=[zg1 99]) HP2.out rfl (by decide) (by decide),zgl _,Nat.zero_le _⟩
  ·exact⟨zgk (l:=[zg1 100,zg2,zg1 97]) HP3.out rfl (by decide) (by decide),zgk (l:=[zg1 119,zg2,zg1 122]) HP4.out rfl (by decide) (by decide),zgl _,Nat.zero_le _⟩)
 exact HQ.out _ _ _ _ _ _ _ _ _ _ _ _ _ _ _ _ (hd_ ⟨rfl,H.1,H.2⟩)
theorem mpR15 (ops:Array Oper)(hops:Tryz.f25.body.bind (zci 15)=some ops)(Q:Exit→Act→World→Prop)(w1:World)
  (hQ:∀(fW fX fY fZ ga gb gf gg gh gi gj:Value) (es:List zd8) (A':Option Addr) (n c:Nat) (w':World),Hid (es.map zd8.pl=zg3 6∧zdi w' (.slice A' n c) es∧Below w1.heap.size w1 w')→Q .normal ⟨#[u0,u1,.slice A' n c,u3,u4,u5,u6,u7,u8,u9,gn,gt,gu,gx,gy,gz,gA,gC,gD,gE,gF,gG,gH,gI,gJ,gK,gL,gM,gN,gO,gP,gQ,gR,gT,gV,gW,gX,gY,gZ,i6,i7,i8,ia,ib,ic,ie,ig,ii,ij,ik,il,im,io,ip,iq,ir,iu,iv,iw,ix,iy,iz,iA,iB,iC,iD,iE,iF,iG,iH,iI,iJ,iK,iL,iM,iN,iO,iP,iQ,iR,iS,iT,iU,iV,iW,iX,iY,iZ,fW,fX,fY,fZ,ga,gb,gf,gg,gh,gi,gj],[]⟩ w'):
  (Code.region 15 ops false).wp prog Q ⟨#[u0,u1,u2,u3,u4,u5,u6,u7,u8,u9,gn,gt,gu,gx,gy,gz,gA,gC,gD,gE,gF,gG,gH,gI,gJ,gK,gL,gM,gN,gO,gP,gQ,gR,gT,gV,gW,gX,gY,gZ,i6,i7,i8,ia,ib,ic,ie,ig,ii,ij,ik,il,im,io,ip,iq,ir,iu,iv,iw,ix,iy,iz,iA,iB,iC,iD,iE,iF,iG,iH,iI,iJ,iK,iL,iM,iN,iO,iP,iQ,iR,iS,iT,iU,iV,iW,iX,iY,iZ,j0,j1,j2,j5,j6,j7,j8,j9,jb,jd,je],[]⟩ w1:=by
 simp only[Tryz.f25,Option.bind_some,zci] at hops
 simp at hops
 subst hops;have HQ:=hd_ hQ;clear hQ;have HB0:Hid (Below w1.heap.size w1 w1):=hd_ (Below.refl _ _);go_wp2_with fail;refine (zgh _ _ _ _ _ rfl _).mono ?_;rintro e w2 ⟨rfl,hb⟩;dsimp only;have HP1:=hd_ (zgj (cs:=[.string ⟨#[100]⟩]) hb);have HB1:=hd_ (z0r HB0.out (zgi hb));clear hb;go_wp2_with fail;refine (zgh _ _ _ _ _ rfl _).mono ?_;rintro e w3 ⟨rfl,hb⟩;dsimp only;have HP2:=hd_ (zgj (cs:=[.string ⟨#[99]⟩]) hb);have HP1:=hd_ (HP1.out.below (zgi hb) HP1.out.lt);have HB2:=hd_ (z0r HB1.out (zgi hb));clear hb;go_wp2_with fail;refine (zgh _ _ _ _ _ rfl _).mono ?_;rintro e w4 ⟨rfl,hb⟩;dsimp only;have HP3:=hd_ (zgj (cs:=[.string ⟨#[101]⟩]) hb);have HP1:=hd_ (HP1.out.below (zgi hb) HP1.out.lt);have HP2:=hd_ (HP2.out.below (zgi hb) HP2.out.lt);have HB3:=hd_ (z0r HB2.out (zgi hb));clear hb;go_wp2_with fail;refine (zgh _ _ _ _ _ rfl _).mono ?_;rintro e w5 ⟨rfl,hb⟩;dsimp only;have HP4:=hd_ (zgj (cs:=[.string ⟨#[119]⟩]) hb);have HP1:=hd_ (HP1.out.below (zgi hb) HP1.out.lt);have HP2:=hd_ (HP2.out.below (zgi hb) HP2.out.lt);have HP3:=hd_ (HP3.out.below (zgi hb) HP3.out.lt);have HB4:=hd_ (z0r HB3.out (zgi hb));clear hb;go_wp2_with fail;have H:=zgm (w2:=w5) (n:=2) (cs:=[.slice (some ⟨w1.heap.size,0,none⟩) 1 1,.bool true,.slice (some ⟨w2.heap.size,0,none⟩) 1 1,.bool true,.slice none 0 0,.slice (some ⟨w3.heap.size,0,none⟩) 1 1,.bool true,.slice (some ⟨w4.heap.size,0,none⟩) 1 1,.bool true,.slice none 0 0]) (es:=([⟨(⟨[zg1 100],true⟩,some ⟨w1.heap.size,0,none⟩,1),(⟨[zg1 99],true⟩,some ⟨w2.heap.size,0,none⟩,1),.slice none 0 0,[]⟩,⟨(⟨[zg1 101],true⟩,some ⟨w3.heap.size,0,none⟩,1),(⟨[zg1 119],true⟩,some ⟨w4.heap.size,0,none⟩,1),.slice none 0 0,[]⟩]:List zd8)) HB4.out rfl rfl (by show 2≤1000;omega) (by
  intro x hx;simp only[List.mem_cons,List.not_mem_nil,or_false] at hx
  rcases hx with rfl | rfl
  ·exact⟨zgk (l:=[zg1 100]) HP1.out rfl (by decide) (by decide),zgk (l:=[zg1 99]) HP2.out rfl (by decide) (by decide),zgl _,Nat.zero_le _⟩
  ·exact⟨zgk (l:=[zg1 101]) HP3.out rfl (by decide) (by decide),zgk (l:=[zg1 119]) HP4.out rfl (by decide) (by decide),zgl _,Nat.zero_le _⟩)
 exact HQ.out _ _ _ _ _ _ _ _ _ _ _ _ _ _ _ _ (hd_ ⟨rfl,H.1,H.2⟩)
end
open Go.Sort (grow)
def zjy (w:World)(B:Nat)(l:List ByteArray):Prop:=z2f Value.string z4i w B (z4h l)
theorem zjz (l:List ByteArray)(v:Value)(w:World)(hl:Strs w v l)(hn:l.length≤1000000):
  Calls prog 35 #[v] w fun e w'=>e=.returned (.map (some w.heap.size))∧zjy w' w.heap.size l∧Below w.heap.size w w':=by
 obtain⟨A,c,rfl,-⟩:=id hl;have hmk:=fun X=>z2e (P:=prog) 80 9 106 .i64 (l.length:Int) underlying80 X;have HL:=hd_ hl;have HM0:Hid (zjy (w.alloc (.map #[] 0)) w.heap.size []∧Below w.heap.size w (w.alloc (.map #[] 0))):=hd_ ⟨z2f.new Value.string z4i w,(Below.refl _ _).alloc (Nat.le_refl _) _⟩;clear hl;go_enter func35,ntmps35;go_upto_region 2 with fail;generalize w.alloc (.map #[] 0)=W1 at HM0 ⊢;clear hmk;go_wp2_with fail;go_loopw [11] (fun i wr=>∃ k:Nat,i=.int .i64 k∧k≤l.length∧Hid (zjy wr w.heap.size (l.take k)∧Below w.heap.size w wr)) (fun i _=>l.length - (intOf i).toNat)
 case atStart=>exact⟨0,rfl,Nat.zero_le _,HM0⟩
 case round =>
  obtain⟨k,rfl,hk,HI⟩:=hrel;by_cases hlt:k<l.length
  ·obtain⟨ad,rfl,hab,s0⟩:=Strs.at_ (HL.out.below HI.out.2) hlt;have HT:Hid (l.take (k+1)=l.take k++[l[k]]):=hd_ (List.take_succ_eq_append_getElem hlt);generalize l[k]=p at s0 HT;have hX:Below wr.heap.size wr wr:=Below.refl _ _;obtain⟨w3,hup,hM3,hg3,-⟩:=z2f.update (w:=wr) HI.out.1 (z2d underlying9) underlying80 p ();have hup':(Instr.mapUpdate 80 (.map (some w.heap.size)) (.string p) (.agg #[])).run prog wr=.ok () w3:=hup;have HN:Hid (zjy w3 w.heap.size (l.take (k+1))∧Below w.heap.size w w3):=hd_ ⟨by unfold zjy;rw[HT.out,zba];exact hM3,HI.out.2.grown hg3 HI.out.2.size (fun k e=>by injection e with e;omega)⟩
   have HLT:=hd_ hlt;clear hab hup hM3 hg3 hX;go_wp2_with fail;go_roundw
   case rel=>exact⟨k+1,by go_num,by omega,HN⟩
   case measure=>simp [intOf];omega
  ·have hke:k=l.length:=by omega
   subst hke;rw[List.take_length] at HI;have hge:¬((l.length:Int)<(l.length:Int)):=by omega
   go_wp2_with fail;go_ret;exact⟨rfl,HI.out⟩
theorem zk0 (l:List ByteArray)(B:Nat)(p:ByteArray)(w:World)(h:zjy w B l):
  Calls prog 36 #[.map (some B),.string p] w fun e w'=>e=.returned (.bool (decide (p∈l)))∧Below w.heap.size w w':=by
 have hlk:=z2f.lookup (w:=w) h (z2d underlying9) underlying80 (z:=.agg #[]) (by rfl) p true
 have hA:Below w.heap.size w (w.alloc (.cells #[] 106)):=(Below.refl _ _).alloc (Nat.le_refl _) _;have HA:=hd_ hA;clear h hA;by_cases hin:p∈l
 all_goals
  have hv:z2h z4i (.agg #[]) true (z4h l p)=.tuple #[.agg #[],.bool (decide (p∈l))]:=by unfold z4h;first | (rw[if_pos hin,decide_eq_true hin];rfl) | (rw[if_neg hin,decide_eq_false hin];rfl)
  rw[hv] at hlk;generalize decide (p∈l)=b at hlk ⊢;clear hin hv;go_enter func36,ntmps36;go_wp2_with fail;go_ret;exact⟨rfl,HA.out⟩
structure PlSt (w wr:World)(B b1 b2:Nat)(v:Value)(op dt:List ByteArray)(ps:List Syn)(k:Nat):Prop where
 own:zjv wr B v ((ps.take k).map (zf7 op dt)++ps.drop k)
 s1:zjy wr b1 op
 s2:zjy wr b2 dt
 low:Below B w wr
theorem set_mid {α:Type}(A D:List α)(x y:α)(k:Nat)(hk:A.length=k):(A++x :: D).set k y=A++y :: D:=by
 subst hk;induction A with
 | nil=>rfl
 | cons a r ih=>rw[List.cons_append,List.length_cons,List.set_cons_succ,ih];rfl
theorem get_mid {α:Type}(A D:List α)(x:α)(k:Nat)(hk:A.length=k)(h:k<(A++x :: D).length):(A++x :: D)[k]=x:=by subst hk;simp
theorem PlSt.next {w wr W:World}{B b1 b2 g c n:Nat}{op dt:List ByteArray}{ps:List Syn}{k:Nat}{x:Syn}{q:Int}(H:PlSt w wr B b1 b2 (.slice (some ⟨g,0,none⟩) n c) op dt ps k)(hX:Below wr.heap.size wr W)
  (hp:ps.drop k=x :: ps.drop (k+1)) (ht:ps.take (k+1)=ps.take k++[x]) (hk:(ps.take k).length=k) (hq:zf6 op dt x=q) (h1:b1≠g) (h2:b2≠g) (hB:B≤g) (hs:B≤wr.heap.size):
  PlSt w (W.setCell ⟨g,k * 5,none⟩ (.int .i64 q)) B b1 b2 (.slice (some ⟨g,0,none⟩) n c) op dt ps (k+1):=by
 have hO:zjv W B (.slice (some ⟨g,0,none⟩) n c) ((ps.take k).map (zf7 op dt)++x :: ps.drop (k+1)):=by
  have:=z0n H.own hX;rw[hp] at this;exact this
 have hlt:k<((ps.take k).map (zf7 op dt)++x :: ps.drop (k+1)).length:=by rw[List.length_append,List.length_map,hk,List.length_cons];omega
 have hO2:=zjv.put hO hlt q;have hx:((ps.take k).map (zf7 op dt)++x :: ps.drop (k+1))[k]=x:=get_mid _ _ _ _ (by rw[List.length_map,hk]) hlt
 rw[hx,set_mid _ _ _ _ _ (by rw[List.length_map,hk])] at hO2
 have hkd:zjw q x=zf7 op dt x:=by rw[← hq];rfl
 refine⟨?_,z2f.setCell (z2f.below H.s1 hX) (fun e=>h1 e.symm) _,z2f.setCell (z2f.below H.s2 hX) (fun e=>h2 e.symm) _,(H.low.trans (hX.mono hs)).setCell hB _⟩;rw[ht,List.map_append,List.append_assoc];rw[hkd] at hO2;exact hO2
theorem plT8 (T:Code)(hT:Tryz.f12.body.bind (zhv 8)=some T)(R:Ending→World→Prop)(w:World)(B b1 b2 g c:Nat)(Ap:Option Addr)(ps:List Syn)(op dt:List ByteArray)(hAp:0<ps.length→Ap=some ⟨g,0,none⟩)
  (hI:PlSt w w B b1 b2 (.slice Ap ps.length c) op dt ps 0) (h1:b1≠g) (h2:b2≠g) (hB:B≤g) (hBw:B≤w.heap.size) (hl:ps.length≤1000000)
  (hs RL:List Hav) (Ah:Option Addr) (ch:Nat) (P1:List Syn)
  (hBK:∀ X,Below B w X→zjv X B (.slice Ap ps.length c) (ps.map (zf7 op dt))→Calls prog 38 #[.slice Ah hs.length ch,.slice Ap ps.length c] X fun e w'=>e=.returned (.tuple #[])∧zjv w' B (.slice Ap ps.length c) P1∧Below B X w')
  (hRS:∀ X,Below B w X→zjv X B (.slice Ap ps.length c) P1→Calls prog 39 #[.slice Ah hs.length ch,.slice Ap ps.length c] X fun e w'=>∃ u,e=.returned u∧z4b w' u RL∧Below X.heap.size X w')
  (hR1:1024<RL.length→∀ X,Below B w X→R (.returned (.tuple #[.slice none 0 0,.int .i64 351])) X)
  (hR2:¬ 1024<RL.length→∀ X,Below B w X→zjv X B (.slice Ap ps.length c) P1→R (.returned (.tuple #[.slice Ap ps.length c,.int .i64 0])) X)
  (u0 u1 u2 u4 u5 u6 u7 u8 u9 gn gt gx gy gz gE gF gG gH gI gJ gK gL gM gN gO gP gQ gR gT gV gW gX gY gZ i6 i7 i8 ia ib ic ie ig ii ij ik il im io ip iq ir iu iv iw ix iy iz iA iB iC iD iE iF iG iH iI iJ iK iL iM iN iO iP iQ iR iS iT iU iV iW iX iY iZ j0 j1 j2 j5 j6 j7 j8 j9 jb jd:Value):
  T.wp prog (bodyPost prog Tryz.f12 R) ⟨#[u0,u1,u2,.slice Ah hs.length ch,u4,u5,u6,u7,u8,u9,gn,gt,.slice none 0 0,gx,gy,gz,.slice Ap ps.length c,.map (some b1),.map (some b2),gE,gF,gG,gH,gI,gJ,gK,gL,gM,gN,gO,gP,gQ,gR,gT,gV,gW,gX,gY,gZ,i6,i7,i8,ia,ib,ic,ie,ig,ii,ij,ik,il,im,io,ip,iq,ir,iu,iv,iw,ix,iy,iz,iA,iB,iC,iD,iE,iF,iG,iH,iI,iJ,iK,iL,iM,iN,iO,iP,iQ,iR,iS,iT,iU,iV,iW,iX,iY,iZ,j0,j1,j2,j5,j6,j7,j8,j9,jb,jd],[]⟩ w:=by
 simp only[Tryz.f12,Option.bind_some,zhv,zhu] at hT
 simp at hT
 subst hT;have HI:=hd_ hI;have HBK:=hd_ hBK;have HRS:=hd_ hRS;have HR1:=hd_ hR1;have HR2:=hd_ hR2;clear hI hBK hRS hR1 hR2;go_wp2_with fail;go_loopw [43] (fun i wr=>∃ k:Nat,k≤ps.length∧i=.int .i64 k∧Hid (PlSt w wr B b1 b2 (.slice Ap ps.length c) op dt ps k)) (fun i _=>ps.length - (intOf i).toNat)
 case atStart=>exact⟨0,Nat.zero_le _,rfl,HI⟩
 case round =>
  obtain⟨k,hk,rfl,HK⟩:=hrel;by_cases hlt:k<ps.length
  ·obtain rfl:=hAp (by omega)
   have hlt2:k<((ps.take k).map (zf7 op dt)++ps.drop k).length:=by simp;omega
   have hx:((ps.take k).map (zf7 op dt)++ps.drop k)[k]=ps[k]:=by
    rw[List.getElem_append_right (by rw[List.length_map,List.length_take];exact Nat.min_le_left _ _)]
    simp [Nat.min_eq_left hk]
   obtain⟨⟨y0,y1,y2,y3,y4⟩,fz⟩:=zjv.cell HK.out.own hlt2;rw[hx] at y0 y1 y2 y3 y4;have HPX:=hd_ (show ps.drop k=ps[k] :: ps.drop (k+1) from List.drop_eq_getElem_cons hlt);have HTX:=hd_ (show ps.take (k+1)=ps.take k++[ps[k]] from List.take_succ_eq_append_getElem hlt);generalize ps[k]=x at y0 y1 y2 y3 y4 hx HPX HTX;clear hx fz hlt2;have HH1:=hd_ (fun X (hX:Below wr.heap.size wr X)=>zk0 op b1 x.path X (z2f.below HK.out.s1 hX));have hA:Below wr.heap.size wr (wr.alloc (.cells #[.int .i64 x.kind,.string x.path,.int .i64 x.num,.string x.frm,.string x.dst] 48)):=(Below.refl _ _).alloc (Nat.le_refl _) _;have HC1:=hd_ (HH1.out _ hA);have HA:=hd_ hA;obtain⟨z0,z1,z2,z3,z4⟩:=z3r (x:=x) (z0l wr [.int .i64 x.kind,.string x.path,.int .i64 x.num,.string x.frm,.string x.dst] 48);have HBX:=hd_ (z0l wr [.int .i64 x.kind,.string x.path,.int .i64 x.num,.string x.frm,.string x.dst] 48);clear hA;by_cases hop:x.path∈op
   ·have HKD:Hid (zf6 op dt x=6):=hd_ (if_pos hop);rw[decide_eq_true hop] at HC1;clear hop;go_wp2_with fail;refine HC1.out.mono ?_;rintro e w1 ⟨rfl,hb1⟩;have HB1:=hd_ (HA.out.trans (hb1.mono HA.out.size));clear hb1;have HO1:=hd_ (z0n HK.out.own HB1.out);obtain⟨⟨v0,-,-,-,-⟩,fz⟩:=zjv.cell (show zjv w1 B (.slice (some ⟨g,0,none⟩) ps.length c) ((ps.take k).map (zf7 op dt)++ps.drop k) from HO1.out) (k:=k) (by simp;omega)
    clear y0 y1 y2 y3 y4 z0 z1 z2 z3 z4;have HN:=hd_ (HK.out.next HB1.out HPX.out HTX.out (by rw[List.length_take];omega) HKD.out h1 h2 hB (Nat.le_trans hBw HK.out.low.size))
    go_wp2_with fail;go_roundw
    case rel=>exact⟨k+1,by omega,by go_num,HN⟩
    case measure=>simp [intOf];omega
   ·have HOP:=hd_ hop;rw[decide_eq_false hop] at HC1;clear hop;have HF1:=hd_ (fun X (hX:Below wr.heap.size wr X)=>zk0 dt b2 x.frm X (z2f.below HK.out.s2 hX));have HD1:=hd_ (fun X (hX:Below wr.heap.size wr X)=>zk0 dt b2 x.dst X (z2f.below HK.out.s2 hX));have HCELL:=hd_ (fun X (hX:Below wr.heap.size wr X)=>zjv.cell (show zjv X B (.slice (some ⟨g,0,none⟩) ps.length c) ((ps.take k).map (zf7 op dt)++ps.drop k) from z0n HK.out.own hX) (k:=k) (by simp;omega))
    go_wp2_with fail;refine HC1.out.mono ?_;rintro e w1 ⟨rfl,hb1⟩;have HB1:=hd_ (HA.out.trans (hb1.mono HA.out.size));have HX1:=hd_ (HBX.out.below hb1 HBX.out.lt);clear hb1 y0 y1 y2 y3 y4 z0 z1 z2 z3 z4;obtain⟨z0,z1,z2,z3,z4⟩:=z3r (x:=x) HX1.out;by_cases hf:x.frm=z2l
    ·by_cases hd:x.dst=z2l
     ·have HFE:=hd_ hf;obtain⟨s1,s2⟩:=z3v hf;have HDE:=hd_ hd;obtain⟨t1,t2⟩:=z3v hd;have HKD:Hid (zf6 op dt x=z3p x.frm x.dst):=hd_ (by unfold zf6;rw[if_neg HOP.out,if_neg (fun h=>h.elim (fun h=>h.1 HFE.out) (fun h=>h.1 HDE.out))])
      clear hf hd;have HKC:=hd_ (z3y x w1);go_wp2_with fail;refine HKC.out.mono ?_;rintro e w2 ⟨rfl,hb2⟩;have HB2:=hd_ (HB1.out.trans (hb2.mono HB1.out.size));have HX2:=hd_ (HX1.out.below hb2 HX1.out.lt);clear hb2 z0 z1 z2 z3 z4;obtain⟨z0,z1,z2,z3,z4⟩:=z3r (x:=x) HX2.out;obtain⟨⟨v0,-,-,-,-⟩,fz⟩:=HCELL.out w2 HB2.out;have HN:=hd_ (HK.out.next HB2.out HPX.out HTX.out (by rw[List.length_take];omega) HKD.out h1 h2 hB (Nat.le_trans hBw HK.out.low.size))
      go_wp2_with fail;go_roundw
      case rel=>exact⟨k+1,by omega,by go_num,HN⟩
      case measure=>simp [intOf];omega
     ·by_cases hdd:x.dst∈dt
      ·have HFE:=hd_ hf;obtain⟨s1,s2⟩:=z3v hf;have HDE:=hd_ hd;obtain⟨t1,t2⟩:=z3w hd;have HDD:=hd_ hdd;have HKD:Hid (zf6 op dt x=5):=hd_ (by unfold zf6;rw[if_neg HOP.out,if_pos (.inr ⟨HDE.out,HDD.out⟩)])
       clear hf hd hdd;have HCD:=hd_ (HD1.out w1 HB1.out);rw[decide_eq_true HDD.out] at HCD;go_wp2_with fail;refine HCD.out.mono ?_;rintro e w2 ⟨rfl,hb2⟩;have HB2:=hd_ (HB1.out.trans (hb2.mono HB1.out.size));have HX2:=hd_ (HX1.out.below hb2 HX1.out.lt);clear hb2 z0 z1 z2 z3 z4;obtain⟨z0,z1,z2,z3,z4⟩:=z3r (x:=x) HX2.out;obtain⟨⟨v0,-,-,-,-⟩,fz⟩:=HCELL.out w2 HB2.out;have HN:=hd_ (HK.out.next HB2.out HPX.out HTX.out (by rw[List.length_take];omega) HKD.out h1 h2 hB (Nat.le_trans hBw HK.out.low.size))
       go_wp2_with fail;go_roundw
       case rel=>exact⟨k+1,by omega,by go_num,HN⟩
       case measure=>simp [intOf];omega
      ·have HFE:=hd_ hf;obtain⟨s1,s2⟩:=z3v hf;have HDE:=hd_ hd;obtain⟨t1,t2⟩:=z3w hd;have HDD:=hd_ hdd;have HKD:Hid (zf6 op dt x=z3p x.frm x.dst):=hd_ (by unfold zf6;rw[if_neg HOP.out,if_neg (fun h=>h.elim (fun h=>h.1 HFE.out) (fun h=>HDD.out h.2))])
       clear hf hd hdd;have HCD:=hd_ (HD1.out w1 HB1.out);rw[decide_eq_false HDD.out] at HCD;go_wp2_with fail;refine HCD.out.mono ?_;rintro e w2 ⟨rfl,hb2⟩;have HB2:=hd_ (HB1.out.trans (hb2.mono HB1.out.size));have HX2:=hd_ (HX1.out.below hb2 HX1.out.lt);clear hb2 z0 z1 z2 z3 z4;obtain⟨z0,z1,z2,z3,z4⟩:=z3r (x:=x) HX2.out;have HKC:=hd_ (z3y x w2);go_wp2_with fail;refine HKC.out.mono ?_;rintro e w3 ⟨rfl,hb3⟩;have HB3:=hd_ (HB2.out.trans (hb3.mono HB2.out.size));have HX3:=hd_ (HX2.out.below hb3 HX2.out.lt);clear hb3 z0 z1 z2 z3 z4;obtain⟨z0,z1,z2,z3,z4⟩:=z3r (x:=x) HX3.out;obtain⟨⟨v0,-,-,-,-⟩,fz⟩:=HCELL.out w3 HB3.out;have HN:=hd_ (HK.out.next HB3.out HPX.out HTX.out (by rw[List.length_take];omega) HKD.out h1 h2 hB (Nat.le_trans hBw HK.out.low.size))
       go_wp2_with fail;go_roundw
       case rel=>exact⟨k+1,by omega,by go_num,HN⟩
       case measure=>simp [intOf];omega
    ·by_cases hfd:x.frm∈dt
     ·have HFE:=hd_ hf;obtain⟨s1,s2⟩:=z3w hf;have HCF:=hd_ (HF1.out w1 HB1.out);rw[decide_eq_true hfd] at HCF;have HFD:=hd_ hfd;have HKD:Hid (zf6 op dt x=5):=hd_ (by unfold zf6;rw[if_neg HOP.out,if_pos (.inl ⟨HFE.out,HFD.out⟩)])
      clear hf hfd;go_wp2_with fail;refine HCF.out.mono ?_;rintro e w2 ⟨rfl,hb2⟩;have HB2:=hd_ (HB1.out.trans (hb2.mono HB1.out.size));have HX2:=hd_ (HX1.out.below hb2 HX1.out.lt);clear hb2 z0 z1 z2 z3 z4;obtain⟨z0,z1,z2,z3,z4⟩:=z3r (x:=x) HX2.out;obtain⟨⟨v0,-,-,-,-⟩,fz⟩:=HCELL.out w2 HB2.out;have HN:=hd_ (HK.out.next HB2.out HPX.out HTX.out (by rw[List.length_take];omega) HKD.out h1 h2 hB (Nat.le_trans hBw HK.out.low.size))
      go_wp2_with fail;go_roundw
      case rel=>exact⟨k+1,by omega,by go_num,HN⟩
      case measure=>simp [intOf];omega
     ·by_cases hd:x.dst=z2l
      ·have HFE:=hd_ hf;obtain⟨s1,s2⟩:=z3w hf;have HCF:=hd_ (HF1.out w1 HB1.out);rw[decide_eq_false hfd] at HCF;have HFD:=hd_ hfd;have HDE:=hd_ hd;obtain⟨t1,t2⟩:=z3v hd;have HKD:Hid (zf6 op dt x=z3p x.frm x.dst):=hd_ (by unfold zf6;rw[if_neg HOP.out,if_neg (fun h=>h.elim (fun h=>HFD.out h.2) (fun h=>h.1 HDE.out))])
       clear hf hfd hd;go_wp2_with fail;refine HCF.out.mono ?_;rintro e w2 ⟨rfl,hb2⟩;have HB2:=hd_ (HB1.out.trans (hb2.mono HB1.out.size));have HX2:=hd_ (HX1.out.below hb2 HX1.out.lt);clear hb2 z0 z1 z2 z3 z4;obtain⟨z0,z1,z2,z3,z4⟩:=z3r (x:=x) HX2.out;have HKC:=hd_ (z3y x w2);go_wp2_with fail;refine HKC.out.mono ?_;rintro e w3 ⟨rfl,hb3⟩;have HB3:=hd_ (HB2.out.trans (hb3.mono HB2.out.size));have HX3:=hd_ (HX2.out.below hb3 HX2.out.lt);clear hb3 z0 z1 z2 z3 z4;obtain⟨z0,z1,z2,z3,z4⟩:=z3r (x:=x) HX3.out;obtain⟨⟨v0,-,-,-,-⟩,fz⟩:=HCELL.out w3 HB3.out;have HN:=hd_ (HK.out.next HB3.out HPX.out HTX.out (by rw[List.length_take];omega) HKD.out h1 h2 hB (Nat.le_trans hBw HK.out.low.size))
       go_wp2_with fail;go_roundw
       case rel=>exact⟨k+1,by omega,by go_num,HN⟩
       case measure=>simp [intOf];omega
      ·by_cases hdd:x.dst∈dt
       ·have HFE:=hd_ hf;obtain⟨s1,s2⟩:=z3w hf;have HCF:=hd_ (HF1.out w1 HB1.out);rw[decide_eq_false hfd] at HCF;have HFD:=hd_ hfd;have HDE:=hd_ hd;obtain⟨t1,t2⟩:=z3w hd;have HDD:=hd_ hdd;have HKD:Hid (zf6 op dt x=5):=hd_ (by unfold zf6;rw[if_neg HOP.out,if_pos (.inr ⟨HDE.out,HDD.out⟩)])
        clear hf hfd hd hdd;go_wp2_with fail;refine HCF.out.mono ?_;rintro e w2 ⟨rfl,hb2⟩;have HB2:=hd_ (HB1.out.trans (hb2.mono HB1.out.size));have HX2:=hd_ (HX1.out.below hb2 HX1.out.lt);clear hb2 z0 z1 z2 z3 z4;obtain⟨z0,z1,z2,z3,z4⟩:=z3r (x:=x) HX2.out;have HCD:=hd_ (HD1.out w2 HB2.out);rw[decide_eq_true HDD.out] at HCD;go_wp2_with fail;refine HCD.out.mono ?_;rintro e w3 ⟨rfl,hb3⟩;have HB3:=hd_ (HB2.out.trans (hb3.mono HB2.out.size));have HX3:=hd_ (HX2.out.below hb3 HX2.out.lt);clear hb3 z0 z1 z2 z3 z4;obtain⟨z0,z1,z2,z3,z4⟩:=z3r (x:=x) HX3.out;obtain⟨⟨v0,-,-,-,-⟩,fz⟩:=HCELL.out w3 HB3.out;have HN:=hd_ (HK.out.next HB3.out HPX.out HTX.out (by rw[List.length_take];omega) HKD.out h1 h2 hB (Nat.le_trans hBw HK.out.low.size))
        go_wp2_with fail;go_roundw
        case rel=>exact⟨k+1,by omega,by go_num,HN⟩
        case measure=>simp [intOf];omega
       ·have HFE:=hd_ hf;obtain⟨s1,s2⟩:=z3w hf;have HCF:=hd_ (HF1.out w1 HB1.out);rw[decide_eq_false hfd] at HCF;have HFD:=hd_ hfd;have HDE:=hd_ hd;obtain⟨t1,t2⟩:=z3w hd;have HDD:=hd_ hdd;have HKD:Hid (zf6 op dt x=z3p x.frm x.dst):=hd_ (by unfold zf6;rw[if_neg HOP.out,if_neg (fun h=>h.elim (fun h=>HFD.out h.2) (fun h=>HDD.out h.2))])
        clear hf hfd hd hdd;go_wp2_with fail;refine HCF.out.mono ?_;rintro e w2 ⟨rfl,hb2⟩;have HB2:=hd_ (HB1.out.trans (hb2.mono HB1.out.size));have HX2:=hd_ (HX1.out.below hb2 HX1.out.lt);clear hb2 z0 z1 z2 z3 z4;obtain⟨z0,z1,z2,z3,z4⟩:=z3r (x:=x) HX2.out;have HCD:=hd_ (HD1.out w2 HB2.out);rw[decide_eq_false HDD.out] at HCD;go_wp2_with fail;refine HCD.out.mono ?_;rintro e w3 ⟨rfl,hb3⟩;have HB3:=hd_ (HB2.out.trans (hb3.mono HB2.out.size));have HX3:=hd_ (HX2.out.below hb3 HX2.out.lt);clear hb3 z0 z1 z2 z3 z4;obtain⟨z0,z1,z2,z3,z4⟩:=z3r (x:=x) HX3.out;have HKC:=hd_ (z3y x w3);go_wp2_with fail;refine HKC.out.mono ?_;rintro e w4 ⟨rfl,hb4⟩;have HB4:=hd_ (HB3.out.trans (hb4.mono HB3.out.size));have HX4:=hd_ (HX3.out.below hb4 HX3.out.lt);clear hb4 z0 z1 z2 z3 z4;obtain⟨z0,z1,z2,z3,z4⟩:=z3r (x:=x) HX4.out;obtain⟨⟨v0,-,-,-,-⟩,fz⟩:=HCELL.out w4 HB4.out;have HN:=hd_ (HK.out.next HB4.out HPX.out HTX.out (by rw[List.length_take];omega) HKD.out h1 h2 hB (Nat.le_trans hBw HK.out.low.size))
        go_wp2_with fail;go_roundw
        case rel=>exact⟨k+1,by omega,by go_num,HN⟩
        case measure=>simp [intOf];omega
  ·have hke:k=ps.length:=by omega
   have HO0:Hid (zjv wr B (.slice Ap ps.length c) (ps.map (zf7 op dt))):=hd_ (by
    have:=HK.out.own;rw[hke,List.take_length,List.drop_length,List.append_nil] at this;exact this)
   have HL:=hd_ HK.out.low;have HC:=hd_ (HBK.out wr HL.out HO0.out);have HBW:=hd_ (Nat.le_trans hBw HK.out.low.size);clear hke HK;go_wp2_with fail;refine HC.out.mono ?_;rintro e w1 ⟨rfl,ho,hb⟩;have HO1:=hd_ ho;have HL1:=hd_ (HL.out.trans hb);have HS1:=hd_ (Nat.le_trans HBW.out hb.size);have HC2:=hd_ (HRS.out w1 HL1.out ho);clear ho hb;go_wp2_with fail;refine HC2.out.mono ?_;rintro e w2 ⟨u,rfl,hu,hb⟩;have HL2:=hd_ (HL1.out.trans (hb.mono HS1.out));have HO2:=hd_ (show zjv w2 B _ P1 from z0n HO1.out hb);obtain⟨Au,cu,rfl,-⟩:=id hu;clear hu hb;by_cases hr:1024<RL.length
   ·have HF:=hd_ (HR1.out hr w2 HL2.out);go_wp2_with fail;exact HF.out
   ·have HF:=hd_ (HR2.out hr w2 HL2.out HO2.out);go_wp2_with fail;exact HF.out
def znf (w:World)(U g m:Nat)(e:Ending)(w':World):Prop:=∃(k:Nat) (es:List zd8) (v:Value),e=.returned v∧k<8∧es.map zd8.pl=zg3 k∧zdi w' v es∧zgf w' U g (m+1)∧z6t [g] w w'
theorem zng (U g m:Nat)(w:World)(hT:zgf w U g m)(hm:m≤1000000):Calls prog 25 #[.pointer (some ⟨g,0,none⟩)] w (znf w U g m):=by
 have HN:=hd_ (zgg U g m 8 w hT hm (by omega))
 clear hT hm;go_enter func25,ntmps25;go_upto_region 2 with fail;refine HN.out.mono ?_;rintro e w1 ⟨k,rfl,hk,hT1,hK1⟩;dsimp only;have HT:=hd_ hT1;have HK:=hd_ hK1;have h8:k=0∨k=1∨k=2∨k=3∨k=4∨k=5∨k=6∨k=7:=by obtain⟨a,b,-⟩:=hk;have:=b (by omega);omega
 clear hT1 hK1 hk HN;have HF:Hid (∀(k:Nat) (es:List zd8) (v:Value) (w':World),k<8→es.map zd8.pl=zg3 k→zdi w' v es→Below w1.heap.size w1 w'→znf w U g m (.returned v) w'):=hd_ fun k es v w' h1 h2 h3 h4=>⟨k,es,v,rfl,h1,h2,h3,HT.out.below h4,HK.out.under h4⟩;rcases h8 with rfl | rfl | rfl | rfl | rfl | rfl | rfl | rfl
 ·as_aux_lemma =>
  go_upto_region 3 with fail;refine mpR3 _ (by kernel_rfl) _ w1 ?_
  intro t7 t8 t9 ed ef ei es A' n c w' H;go_wp2_with fail;go_ret;exact HF.out 0 es _ w' (by decide) H.out.1 H.out.2.1 H.out.2.2
 ·as_aux_lemma =>
  go_upto_region 5 with fail;refine mpR5 _ (by kernel_rfl) _ w1 ?_
  intro el em en eo er et eu ez eA es A' n c w' H;go_wp2_with fail;go_ret;exact HF.out 1 es _ w' (by decide) H.out.1 H.out.2.1 H.out.2.2
 ·as_aux_lemma =>
  go_upto_region 7 with fail;refine mpR7 _ (by kernel_rfl) _ w1 ?_
  intro eD eE eF eG eH eI eJ eK eL eM eN es A' n c w' H;go_wp2_with fail;go_ret;exact HF.out 2 es _ w' (by decide) H.out.1 H.out.2.1 H.out.2.2
 ·as_aux_lemma =>
  go_upto_region 9 with fail;refine mpR9 _ (by kernel_rfl) _ w1 ?_
  intro eQ eR eS eT eU eV eW eX eY eZ fa fd fe ff fg fh es A' n c w' H;go_wp2_with fail;go_ret;exact HF.out 3 es _ w' (by decide) H.out.1 H.out.2.1 H.out.2.2
 ·as_aux_lemma =>
  go_upto_region 11 with fail;refine mpR11 _ (by kernel_rfl) _ w1 ?_
  intro fm fp fq ft fu fv fw fx fy fA fB fC fD fE fF fG es A' n c w' H;go_wp2_with fail;go_ret;exact HF.out 4 es _ w' (by decide) H.out.1 H.out.2.1 H.out.2.2
 ·as_aux_lemma =>
  go_upto_region 13 with fail;refine mpR13 _ (by kernel_rfl) _ w1 ?_
  intro fJ fK fL fM fN fO fP fQ fR fS fT es A' n c w' H;go_wp2_with fail;go_ret;exact HF.out 5 es _ w' (by decide) H.out.1 H.out.2.1 H.out.2.2
 ·as_aux_lemma =>
  go_upto_region 15 with fail;refine mpR15 _ (by kernel_rfl) _ w1 ?_
  intro fW fX fY fZ ga gb gf gg gh gi gj es A' n c w' H;go_wp2_with fail;go_ret;exact HF.out 6 es _ w' (by decide) H.out.1 H.out.2.1 H.out.2.2
 ·as_aux_lemma =>
  go_wp2_with fail;go_ret;exact HF.out 7 [] _ w1 (by decide) rfl ⟨Row.nil_ _ 5,fun x h=>by cases h⟩ (Below.refl _ _)
end Go.Proofs.YtegeboijhifmcaaGreatDoor
