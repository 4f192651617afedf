/- A part. -/
import Derived.Test.YtijghobkkdbhnaaGreatDoorMcw23
import Derived.Test.YtijghobkkdbhnaaGreatDoorMcw25
set_option linter.unusedVariables false
set_option linter.unusedSimpArgs false
set_option maxHeartbeats 16000000
set_option maxRecDepth 100000
namespace Go.Proofs.YtijghobkkdbhnaaGreatDoor
open Go.Proofs.Tryz
open Go.RowKit
section
variable {u0 u1 u2 u3 u4 u5 u6 u7 u8 u9 gA gC gD gE gF gG gH gI gJ gK gL gM gN gO gP gQ gR gT gV gW gX gY gZ i6 i7 i8 ia ib ic ie ig ii ij ik il im io ip iq ir iu iv iw ix iy iz iA iB iC iD iE iF iG iH iI iJ iK iL iM iN iO iP iQ iR iS iT iU iV iW iX iY iZ j0 j1 j2 j5 j6 j7 j8 j9 jb jd jf jg jh ji jj jk jl : Value}
theorem zg2 (b:Bool)(v:Value)(A:Option Addr)(n c:Nat)(hv:v=.slice A n c)(w:World):Calls prog 58 #[.bool b,v] w fun e w'=>e=.returned (.agg #[v,.bool b])∧zB w w':=by
 subst hv;have hZ:=z0l w [.slice none 0 0,.bool false] 68;have hA:zB w (w.alloc (.cells #[.slice none 0 0,.bool false] 68)):=(Below.refl _ _).alloc (Nat.le_refl _) _;go_enter func58,ntmps58;go_upto_region 1 with fail;generalize w.alloc (.cells #[.slice none 0 0,.bool false] 68)=W1 at hZ hA ⊢;obtain⟨z0,z1⟩:=(⟨hZ.cell 0,hZ.cell 1⟩:W1.cell? ⟨w.heap.size,0,none⟩=some (.slice none 0 0)∧W1.cell? ⟨w.heap.size,1,none⟩=some (.bool false));obtain⟨y0,y1⟩:=(⟨hZ.frozen 0,hZ.frozen 1⟩:W1.frozen? ⟨w.heap.size,0,none⟩=false∧W1.frozen? ⟨w.heap.size,1,none⟩=false);go_wp2_with fail;have hE:=(hZ.set_ 0 (.slice A n c)).set_ 1 (.bool b);have hb:=(hA.setCell (p:=⟨w.heap.size,0,none⟩) (by simp) (.slice A n c)).setCell (p:=⟨w.heap.size,1,none⟩) (by simp) (.bool b)
 generalize (W1.setCell ⟨w.heap.size,0,none⟩ (.slice A n c)).setCell ⟨w.heap.size,1,none⟩ (.bool b)=W3 at hE hb ⊢;have e0:=hE.cell 0;have e1:=hE.cell 1;exact bodyPost_ret (v:=.agg #[.slice A n c,.bool b]) (by simp [results,results58,go_sem,e0,e1]) rfl ⟨rfl,hb⟩
theorem zg3 {wp w1:World}{o:Obj}(hb:Below (wp.alloc o).heap.size (wp.alloc o) w1):zB wp w1:=z0r ((Below.refl _ _).alloc (Nat.le_refl _) _) hb
theorem zg4 {wp w1:World}{cs:List Value}{t:TypeId}(hb:Below (wp.alloc (.cells cs.toArray t)).heap.size (wp.alloc (.cells cs.toArray t)) w1):Blk w1 wp.heap.size t cs:=(z0l wp cs t).below hb (z0l wp cs t).lt
theorem zg5 {w:World}{g:Nat}{l:List ByteArray}{b:Bool}{n:Nat}(h:Blk w g 9 (l.map .string))(hn:n=l.length)(hl:l.length≤1000)(hs:∀ x∈l,x.size≤1000000):z9j w (.slice (some ⟨g,0,none⟩) n n) ⟨l,b⟩:=by
 subst hn;exact⟨h.row (size:=1) (n:=l.length) (by rw[List.length_map,Nat.mul_one]) (by unfold maxLen;omega),hs⟩
theorem zg6 (w:World):zcp w (.slice none 0 0) []:=⟨Row.nil_ w 2,fun q h=>by cases h⟩
theorem zg7 {w1 w2:World}{n:Nat}{es:List zcv}{cs:List Value}(hb:zB w1 w2)(hcs:cs=es.flatMap zcv.cells)(hn:n=es.length)(hl:es.length≤1000)
  (he:∀ x∈es,zcw w2 x):zd1 (w2.alloc (.cells cs.toArray 71)) (.slice (some ⟨w2.heap.size,0,none⟩) n n) es∧zB w1 (w2.alloc (.cells cs.toArray 71)):=by
 subst hcs hn;have ha:zB w2 (w2.alloc (.cells (es.flatMap zcv.cells).toArray 71)):=(Below.refl _ _).alloc (Nat.le_refl _) _;refine⟨⟨(z0l w2 (es.flatMap zcv.cells) 71).row (size:=5) (n:=es.length) ?_ (by unfold maxLen;omega),fun x hx=>(he x hx).below ha⟩,z0r hb ha⟩
 clear he ha hl hb;induction es with
 | nil=>rfl
 | cons x es ih=>rw[List.flatMap_cons,List.length_append,ih,List.length_cons];show 5+_=_;omega
theorem mpR3 (ops:Array Oper)(hops:Tryz.f22.body.bind (z0x 3)=some ops)(Q:Exit→Act→World→Prop)(w1:World)
  (hQ:∀(t7 t8 t9 eo er et:Value) (es:List zcv) (A':Option Addr) (n c:Nat) (w':World),Hid (es.map zcv.pl=zfo 0∧zd1 w' (.slice A' n c) es∧zB w1 w')→Q .normal ⟨#[u0,u1,.slice A' n c,u3,u4,u5,u6,t7,t8,t9,eo,er,et,gE,gF,gG,gH,gI,gJ,gK,gL,gM,gN,gO,gP,gQ,gR,gT,gV,gW,gX,gY,gZ,i6,i7,i8,ia,ib,ic,ie,ig,ii,ij,ik,il,im,io,ip,iq,ir,iu,iv,iw,ix,iy,iz,iA,iB,iC,iD,iE,iF,iG,iH,iI,iJ,iK,iL,iM,iN,iO,iP,iQ,iR,iS,iT,iU,iV,iW,iX,iY,iZ,j0,j1,j2,j5,j6,j7,j8,j9,jb,jd,jf,jg,jh,ji,jj,jk,jl],[]⟩ w'):
  (Code.region 3 ops false).wp prog Q ⟨#[u0,u1,u2,u3,u4,u5,u6,u7,u8,u9,gA,gC,gD,gE,gF,gG,gH,gI,gJ,gK,gL,gM,gN,gO,gP,gQ,gR,gT,gV,gW,gX,gY,gZ,i6,i7,i8,ia,ib,ic,ie,ig,ii,ij,ik,il,im,io,ip,iq,ir,iu,iv,iw,ix,iy,iz,iA,iB,iC,iD,iE,iF,iG,iH,iI,iJ,iK,iL,iM,iN,iO,iP,iQ,iR,iS,iT,iU,iV,iW,iX,iY,iZ,j0,j1,j2,j5,j6,j7,j8,j9,jb,jd,jf,jg,jh,ji,jj,jk,jl],[]⟩ w1:=by
 simp only[Tryz.f22,Option.bind_some,z0x] at hops
 simp at hops
 subst hops;have HQ:=hd_ hQ;clear hQ;have HB0:Hid (zB w1 w1):=hd_ (Below.refl _ _);go_wp2_with fail;refine (zg2 _ _ _ _ _ rfl _).mono ?_;rintro e w2 ⟨rfl,hb⟩;dsimp only;have HP1:=hd_ (zg4 (cs:=[.string ⟨#[100]⟩]) hb);have HB1:=hd_ (z0r HB0.out (zg3 hb));clear hb;go_wp2_with fail;refine (zg2 _ _ _ _ _ rfl _).mono ?_;rintro e w3 ⟨rfl,hb⟩;dsimp only;have HP2:=hd_ (zg4 (cs:=[.string ⟨#[99]⟩]) hb);have HP1:=hd_ (HP1.out.below (zg3 hb) HP1.out.lt);have HB2:=hd_ (z0r HB1.out (zg3 hb));clear hb;go_wp2_with fail;have H:=zg7 (w2:=w3) (n:=1) (cs:=[.slice (some ⟨w1.heap.size,0,none⟩) 1 1,.bool true,.slice (some ⟨w2.heap.size,0,none⟩) 1 1,.bool true,.slice none 0 0]) (es:=([⟨(⟨[zfm 100],true⟩,some ⟨w1.heap.size,0,none⟩,1),(⟨[zfm 99],true⟩,some ⟨w2.heap.size,0,none⟩,1),.slice none 0 0,[]⟩]:List zcv)) HB2.out rfl rfl (by show 1≤1000;omega) (by
  intro x hx;simp only[List.mem_cons,List.not_mem_nil,or_false] at hx
  subst hx;exact⟨zg5 (l:=[zfm 100]) HP1.out rfl (by decide) (by decide),zg5 (l:=[zfm 99]) HP2.out rfl (by decide) (by decide),zg6 _,Nat.zero_le _⟩)
 exact HQ.out _ _ _ _ _ _ _ _ _ _ _ (hd_ ⟨rfl,H.1,H.2⟩)
theorem mpR5 (ops:Array Oper)(hops:Tryz.f22.body.bind (z0x 5)=some ops)(Q:Exit→Act→World→Prop)(w1:World)
  (hQ:∀(eu ez eA eB eC eD eE eF eG:Value) (es:List zcv) (A':Option Addr) (n c:Nat) (w':World),Hid (es.map zcv.pl=zfo 1∧zd1 w' (.slice A' n c) es∧zB w1 w')→Q .normal ⟨#[u0,u1,.slice A' n c,u3,u4,u5,u6,u7,u8,u9,gA,gC,gD,gE,gF,eu,ez,eA,eB,eC,eD,eE,eF,eG,gP,gQ,gR,gT,gV,gW,gX,gY,gZ,i6,i7,i8,ia,ib,ic,ie,ig,ii,ij,ik,il,im,io,ip,iq,ir,iu,iv,iw,ix,iy,iz,iA,iB,iC,iD,iE,iF,iG,iH,iI,iJ,iK,iL,iM,iN,iO,iP,iQ,iR,iS,iT,iU,iV,iW,iX,iY,iZ,j0,j1,j2,j5,j6,j7,j8,j9,jb,jd,jf,jg,jh,ji,jj,jk,jl],[]⟩ w'):
  (Code.region 5 ops false).wp prog Q ⟨#[u0,u1,u2,u3,u4,u5,u6,u7,u8,u9,gA,gC,gD,gE,gF,gG,gH,gI,gJ,gK,gL,gM,gN,gO,gP,gQ,gR,gT,gV,gW,gX,gY,gZ,i6,i7,i8,ia,ib,ic,ie,ig,ii,ij,ik,il,im,io,ip,iq,ir,iu,iv,iw,ix,iy,iz,iA,iB,iC,iD,iE,iF,iG,iH,iI,iJ,iK,iL,iM,iN,iO,iP,iQ,iR,iS,iT,iU,iV,iW,iX,iY,iZ,j0,j1,j2,j5,j6,j7,j8,j9,jb,jd,jf,jg,jh,ji,jj,jk,jl],[]⟩ w1:=by
 simp only[Tryz.f22,Option.bind_some,z0x] at hops
 simp at hops
 subst hops;have HQ:=hd_ hQ;clear hQ;have HB0:Hid (zB w1 w1):=hd_ (Below.refl _ _);go_wp2_with fail;refine (zg2 _ _ _ _ _ rfl _).mono ?_;rintro e w2 ⟨rfl,hb⟩;dsimp only;have HP1:=hd_ (zg4 (cs:=[.string ⟨#[100]⟩]) hb);have HB1:=hd_ (z0r HB0.out (zg3 hb));clear hb;go_wp2_with fail;refine (zg2 _ _ _ _ _ rfl _).mono ?_;rintro e w3 ⟨rfl,hb⟩;dsimp only;have HP2:=hd_ (zg4 (cs:=[.string ⟨#[99]⟩]) hb);have HP1:=hd_ (HP1.out.below (zg3 hb) HP1.out.lt);have HB2:=hd_ (z0r HB1.out (zg3 hb));clear hb;go_wp2_with fail;refine (zg2 _ _ _ _ _ rfl _).mono ?_;rintro e w4 ⟨rfl,hb⟩;dsimp only;have HP3:=hd_ (zg4 (cs:=[.string ⟨#[100]⟩,.string ⟨#[120]⟩]) hb);have HP1:=hd_ (HP1.out.below (zg3 hb) HP1.out.lt);have HP2:=hd_ (HP2.out.below (zg3 hb) HP2.out.lt);have HB3:=hd_ (z0r HB2.out (zg3 hb));clear hb;go_wp2_with fail;have HB9:Hid (zB w1 (w4.alloc (.cells #[.slice (some ⟨w3.heap.size,0,none⟩) 2 2,.bool true] 68))):=hd_ (z0r HB3.out ((Below.refl _ _).alloc (Nat.le_refl _) _));have HH9:=hd_ (z0l w4 [.slice (some ⟨w3.heap.size,0,none⟩) 2 2,.bool true] 68);have HP1:=hd_ (HP1.out.alloc (.cells #[.slice (some ⟨w3.heap.size,0,none⟩) 2 2,.bool true] 68));have HP2:=hd_ (HP2.out.alloc (.cells #[.slice (some ⟨w3.heap.size,0,none⟩) 2 2,.bool true] 68));have HP3:=hd_ (HP3.out.alloc (.cells #[.slice (some ⟨w3.heap.size,0,none⟩) 2 2,.bool true] 68));have H:=zg7 (w2:=(w4.alloc (.cells #[.slice (some ⟨w3.heap.size,0,none⟩) 2 2,.bool true] 68))) (n:=1) (cs:=[.slice (some ⟨w1.heap.size,0,none⟩) 1 1,.bool true,.slice (some ⟨w2.heap.size,0,none⟩) 1 1,.bool true,.slice (some ⟨w4.heap.size,0,none⟩) 1 1]) (es:=([⟨(⟨[zfm 100],true⟩,some ⟨w1.heap.size,0,none⟩,1),(⟨[zfm 99],true⟩,some ⟨w2.heap.size,0,none⟩,1),.slice (some ⟨w4.heap.size,0,none⟩) 1 1,[(⟨[zfm 100,zfm 120],true⟩,some ⟨w3.heap.size,0,none⟩,2)]⟩]:List zcv)) HB9.out rfl rfl (by show 1≤1000;omega) (by
  intro x hx;simp only[List.mem_cons,List.not_mem_nil,or_false] at hx
  subst hx;exact⟨zg5 (l:=[zfm 100]) HP1.out rfl (by decide) (by decide),zg5 (l:=[zfm 99]) HP2.out rfl (by decide) (by decide),⟨HH9.out.row (size:=2) (n:=1) rfl (by decide),fun q hq=>by rw[List.mem_singleton] at hq;subst hq;exact zg5 (l:=[zfm 100,zfm 120]) HP3.out rfl (by decide) (by decide)⟩,(by show 1≤1000;omega)⟩)
 simp only[World.size_alloc] at H
 exact HQ.out _ _ _ _ _ _ _ _ _ _ _ _ _ _ (hd_ ⟨rfl,H.1,H.2⟩)
theorem mpR7 (ops:Array Oper)(hops:Tryz.f22.body.bind (z0x 7)=some ops)(Q:Exit→Act→World→Prop)(w1:World)
  (hQ:∀(eJ eK eL eM eN eO eP eQ eR eS eT:Value) (es:List zcv) (A':Option Addr) (n c:Nat) (w':World),Hid (es.map zcv.pl=zfo 2∧zd1 w' (.slice A' n c) es∧zB w1 w')→Q .normal ⟨#[u0,u1,.slice A' n c,u3,u4,u5,u6,u7,u8,u9,gA,gC,gD,gE,gF,gG,gH,gI,gJ,gK,gL,gM,gN,gO,gP,gQ,eJ,eK,eL,eM,eN,eO,eP,eQ,eR,eS,eT,ib,ic,ie,ig,ii,ij,ik,il,im,io,ip,iq,ir,iu,iv,iw,ix,iy,iz,iA,iB,iC,iD,iE,iF,iG,iH,iI,iJ,iK,iL,iM,iN,iO,iP,iQ,iR,iS,iT,iU,iV,iW,iX,iY,iZ,j0,j1,j2,j5,j6,j7,j8,j9,jb,jd,jf,jg,jh,ji,jj,jk,jl],[]⟩ w'):
  (Code.region 7 ops false).wp prog Q ⟨#[u0,u1,u2,u3,u4,u5,u6,u7,u8,u9,gA,gC,gD,gE,gF,gG,gH,gI,gJ,gK,gL,gM,gN,gO,gP,gQ,gR,gT,gV,gW,gX,gY,gZ,i6,i7,i8,ia,ib,ic,ie,ig,ii,ij,ik,il,im,io,ip,iq,ir,iu,iv,iw,ix,iy,iz,iA,iB,iC,iD,iE,iF,iG,iH,iI,iJ,iK,iL,iM,iN,iO,iP,iQ,iR,iS,iT,iU,iV,iW,iX,iY,iZ,j0,j1,j2,j5,j6,j7,j8,j9,jb,jd,jf,jg,jh,ji,jj,jk,jl],[]⟩ w1:=by
 simp only[Tryz.f22,Option.bind_some,z0x] at hops
 simp at hops
 subst hops;have HQ:=hd_ hQ;clear hQ;have HB0:Hid (zB w1 w1):=hd_ (Below.refl _ _);go_wp2_with fail;refine (zg2 _ _ _ _ _ rfl _).mono ?_;rintro e w2 ⟨rfl,hb⟩;dsimp only;have HP1:=hd_ (zg4 (cs:=[.string ⟨#[100]⟩,.string ⟨#[120]⟩]) hb);have HB1:=hd_ (z0r HB0.out (zg3 hb));clear hb;go_wp2_with fail;refine (zg2 _ _ _ _ _ rfl _).mono ?_;rintro e w3 ⟨rfl,hb⟩;dsimp only;have HP2:=hd_ (zg4 (cs:=[.string ⟨#[99]⟩]) hb);have HP1:=hd_ (HP1.out.below (zg3 hb) HP1.out.lt);have HB2:=hd_ (z0r HB1.out (zg3 hb));clear hb;go_wp2_with fail;refine (zg2 _ _ _ _ _ rfl _).mono ?_;rintro e w4 ⟨rfl,hb⟩;dsimp only;have HP3:=hd_ (zg4 (cs:=[.string ⟨#[101]⟩]) hb);have HP1:=hd_ (HP1.out.below (zg3 hb) HP1.out.lt);have HP2:=hd_ (HP2.out.below (zg3 hb) HP2.out.lt);have HB3:=hd_ (z0r HB2.out (zg3 hb));clear hb;go_wp2_with fail;refine (zg2 _ _ _ _ _ rfl _).mono ?_;rintro e w5 ⟨rfl,hb⟩;dsimp only;have HP4:=hd_ (zg4 (cs:=[.string ⟨#[119]⟩]) hb);have HP1:=hd_ (HP1.out.below (zg3 hb) HP1.out.lt);have HP2:=hd_ (HP2.out.below (zg3 hb) HP2.out.lt);have HP3:=hd_ (HP3.out.below (zg3 hb) HP3.out.lt);have HB4:=hd_ (z0r HB3.out (zg3 hb));clear hb;go_wp2_with fail;have H:=zg7 (w2:=w5) (n:=2) (cs:=[.slice (some ⟨w1.heap.size,0,none⟩) 2 2,.bool true,.slice (some ⟨w2.heap.size,0,none⟩) 1 1,.bool true,.slice none 0 0,.slice (some ⟨w3.heap.size,0,none⟩) 1 1,.bool true,.slice (some ⟨w4.heap.size,0,none⟩) 1 1,.bool true,.slice none 0 0]) (es:=([⟨(⟨[zfm 100,zfm 120],true⟩,some ⟨w1.heap.size,0,none⟩,2),(⟨[zfm 99],true⟩,some ⟨w2.heap.size,0,none⟩,1),.slice none 0 0,[]⟩,⟨(⟨[zfm 101],true⟩,some ⟨w3.heap.size,0,none⟩,1),(⟨[zfm 119],true⟩,some ⟨w4.heap.size,0,none⟩,1),.slice none 0 0,[]⟩]:List zcv)) HB4.out rfl rfl (by show 2≤1000;omega) (by
  intro x hx;simp only[List.mem_cons,List.not_mem_nil,or_false] at hx
  rcases hx with rfl | rfl
  ·exact⟨zg5 (l:=[zfm 100,zfm 120]) HP1.out rfl (by decide) (by decide),zg5 (l:=[zfm 99]) HP2.out rfl (by decide) (by decide),zg6 _,Nat.zero_le _⟩
  ·exact⟨zg5 (l:=[zfm 101]) HP3.out rfl (by decide) (by decide),zg5 (l:=[zfm 119]) HP4.out rfl (by decide) (by decide),zg6 _,Nat.zero_le _⟩)
 exact HQ.out _ _ _ _ _ _ _ _ _ _ _ _ _ _ _ _ (hd_ ⟨rfl,H.1,H.2⟩)
theorem mpR9 (ops:Array Oper)(hops:Tryz.f22.body.bind (z0x 9)=some ops)(Q:Exit→Act→World→Prop)(w1:World)
  (hQ:∀(eW eX eY eZ fd fe ff fg fh fi fj fk fm fp fq ft:Value) (es:List zcv) (A':Option Addr) (n c:Nat) (w':World),Hid (es.map zcv.pl=zfo 3∧zd1 w' (.slice A' n c) es∧zB w1 w')→Q .normal ⟨#[u0,u1,.slice A' n c,u3,u4,u5,u6,u7,u8,u9,gA,gC,gD,gE,gF,gG,gH,gI,gJ,gK,gL,gM,gN,gO,gP,gQ,gR,gT,gV,gW,gX,gY,gZ,i6,i7,i8,ia,ib,ic,eW,eX,eY,eZ,fd,fe,ff,fg,fh,fi,fj,fk,fm,fp,fq,ft,iz,iA,iB,iC,iD,iE,iF,iG,iH,iI,iJ,iK,iL,iM,iN,iO,iP,iQ,iR,iS,iT,iU,iV,iW,iX,iY,iZ,j0,j1,j2,j5,j6,j7,j8,j9,jb,jd,jf,jg,jh,ji,jj,jk,jl],[]⟩ w'):
  (Code.region 9 ops false).wp prog Q ⟨#[u0,u1,u2,u3,u4,u5,u6,u7,u8,u9,gA,gC,gD,gE,gF,gG,gH,gI,gJ,gK,gL,gM,gN,gO,gP,gQ,gR,gT,gV,gW,gX,gY,gZ,i6,i7,i8,ia,ib,ic,ie,ig,ii,ij,ik,il,im,io,ip,iq,ir,iu,iv,iw,ix,iy,iz,iA,iB,iC,iD,iE,iF,iG,iH,iI,iJ,iK,iL,iM,iN,iO,iP,iQ,iR,iS,iT,iU,iV,iW,iX,iY,iZ,j0,j1,j2,j5,j6,j7,j8,j9,jb,jd,jf,jg,jh,ji,jj,jk,jl],[]⟩ w1:=by
 simp only[Tryz.f22,Option.bind_some,z0x] at hops
 simp at hops
 subst hops;have HQ:=hd_ hQ;clear hQ;have HB0:Hid (zB w1 w1):=hd_ (Below.refl _ _);go_wp2_with fail;refine (zg2 _ _ _ _ _ rfl _).mono ?_;rintro e w2 ⟨rfl,hb⟩;dsimp only;have HP1:=hd_ (zg4 (cs:=[.string ⟨#[100]⟩,.string ⟨#[97]⟩]) hb);have HB1:=hd_ (z0r HB0.out (zg3 hb));clear hb;go_wp2_with fail;refine (zg2 _ _ _ _ _ rfl _).mono ?_;rintro e w3 ⟨rfl,hb⟩;dsimp only;have HP2:=hd_ (zg4 (cs:=[.string ⟨#[99]⟩,.string ⟨#[98]⟩]) hb);have HP1:=hd_ (HP1.out.below (zg3 hb) HP1.out.lt);have HB2:=hd_ (z0r HB1.out (zg3 hb));clear hb;go_wp2_with fail;refine (zg2 _ _ _ _ _ rfl _).mono ?_;rintro e w4 ⟨rfl,hb⟩;dsimp only;have HP3:=hd_ (zg4 (cs:=[.string ⟨#[100]⟩,.string ⟨#[98]⟩]) hb);have HP1:=hd_ (HP1.out.below (zg3 hb) HP1.out.lt);have HP2:=hd_ (HP2.out.below (zg3 hb) HP2.out.lt);have HB3:=hd_ (z0r HB2.out (zg3 hb));clear hb;go_wp2_with fail;refine (zg2 _ _ _ _ _ rfl _).mono ?_;rintro e w5 ⟨rfl,hb⟩;dsimp only;have HP4:=hd_ (zg4 (cs:=[.string ⟨#[99]⟩,.string ⟨#[97]⟩]) hb);have HP1:=hd_ (HP1.out.below (zg3 hb) HP1.out.lt);have HP2:=hd_ (HP2.out.below (zg3 hb) HP2.out.lt);have HP3:=hd_ (HP3.out.below (zg3 hb) HP3.out.lt);have HB4:=hd_ (z0r HB3.out (zg3 hb));clear hb;go_wp2_with fail;refine (zg2 _ _ _ _ _ rfl _).mono ?_;rintro e w6 ⟨rfl,hb⟩;dsimp only;have HP5:=hd_ (zg4 (cs:=[.string ⟨#[100]⟩,.string ⟨#[120]⟩]) hb);have HP1:=hd_ (HP1.out.below (zg3 hb) HP1.out.lt);have HP2:=hd_ (HP2.out.below (zg3 hb) HP2.out.lt);have HP3:=hd_ (HP3.out.below (zg3 hb) HP3.out.lt);have HP4:=hd_ (HP4.out.below (zg3 hb) HP4.out.lt);have HB5:=hd_ (z0r HB4.out (zg3 hb));clear hb;go_wp2_with fail;refine (zg2 _ _ _ _ _ rfl _).mono ?_;rintro e w7 ⟨rfl,hb⟩;dsimp only;have HP6:=hd_ (zg4 (cs:=[.string ⟨#[99]⟩,.string ⟨#[120]⟩]) hb);have HP1:=hd_ (HP1.out.below (zg3 hb) HP1.out.lt);have HP2:=hd_ (HP2.out.below (zg3 hb) HP2.out.lt);have HP3:=hd_ (HP3.out.below (zg3 hb) HP3.out.lt);have HP4:=hd_ (HP4.out.below (zg3 hb) HP4.out.lt);have HP5:=hd_ (HP5.out.below (zg3 hb) HP5.out.lt);have HB6:=hd_ (z0r HB5.out (zg3 hb))
 clear hb;go_wp2_with fail;have H:=zg7 (w2:=w7) (n:=3) (cs:=[.slice (some ⟨w1.heap.size,0,none⟩) 2 2,.bool false,.slice (some ⟨w2.heap.size,0,none⟩) 2 2,.bool false,.slice none 0 0,.slice (some ⟨w3.heap.size,0,none⟩) 2 2,.bool false,.slice (some ⟨w4.heap.size,0,none⟩) 2 2,.bool false,.slice none 0 0,.slice (some ⟨w5.heap.size,0,none⟩) 2 2,.bool true,.slice (some ⟨w6.heap.size,0,none⟩) 2 2,.bool true,.slice none 0 0]) (es:=([⟨(⟨[zfm 100,zfm 97],false⟩,some ⟨w1.heap.size,0,none⟩,2),(⟨[zfm 99,zfm 98],false⟩,some ⟨w2.heap.size,0,none⟩,2),.slice none 0 0,[]⟩,⟨(⟨[zfm 100,zfm 98],false⟩,some ⟨w3.heap.size,0,none⟩,2),(⟨[zfm 99,zfm 97],false⟩,some ⟨w4.heap.size,0,none⟩,2),.slice none 0 0,[]⟩,⟨(⟨[zfm 100,zfm 120],true⟩,some ⟨w5.heap.size,0,none⟩,2),(⟨[zfm 99,zfm 120],true⟩,some ⟨w6.heap.size,0,none⟩,2),.slice none 0 0,[]⟩]:List zcv)) HB6.out rfl rfl (by show 3≤1000;omega) (by
  intro x hx;simp only[List.mem_cons,List.not_mem_nil,or_false] at hx
  rcases hx with rfl | rfl | rfl
  ·exact⟨zg5 (l:=[zfm 100,zfm 97]) HP1.out rfl (by decide) (by decide),zg5 (l:=[zfm 99,zfm 98]) HP2.out rfl (by decide) (by decide),zg6 _,Nat.zero_le _⟩
  ·exact⟨zg5 (l:=[zfm 100,zfm 98]) HP3.out rfl (by decide) (by decide),zg5 (l:=[zfm 99,zfm 97]) HP4.out rfl (by decide) (by decide),zg6 _,Nat.zero_le _⟩
  ·exact⟨zg5 (l:=[zfm 100,zfm 120]) HP5.out rfl (by decide) (by decide),zg5 (l:=[zfm 99,zfm 120]) HP6.out rfl (by decide) (by decide),zg6 _,Nat.zero_le _⟩)
 exact HQ.out _ _ _ _ _ _ _ _ _ _ _ _ _ _ _ _ _ _ _ _ _ (hd_ ⟨rfl,H.1,H.2⟩)
theorem mpR11 (ops:Array Oper)(hops:Tryz.f22.body.bind (z0x 11)=some ops)(Q:Exit→Act→World→Prop)(w1:World)
  (hQ:∀(fw fx fy fA fB fC fD fE fF fG fH fI fJ fK fL fM:Value) (es:List zcv) (A':Option Addr) (n c:Nat) (w':World),Hid (es.map zcv.pl=zfo 4∧zd1 w' (.slice A' n c) es∧zB w1 w')→Q .normal ⟨#[u0,u1,.slice A' n c,u3,u4,u5,u6,u7,u8,u9,gA,gC,gD,gE,gF,gG,gH,gI,gJ,gK,gL,gM,gN,gO,gP,gQ,gR,gT,gV,gW,gX,gY,gZ,i6,i7,i8,ia,ib,ic,ie,ig,ii,ij,ik,il,im,io,ip,iq,ir,iu,iv,iw,ix,iy,iz,iA,fw,fx,fy,fA,fB,fC,fD,fE,fF,fG,fH,fI,fJ,fK,fL,fM,iR,iS,iT,iU,iV,iW,iX,iY,iZ,j0,j1,j2,j5,j6,j7,j8,j9,jb,jd,jf,jg,jh,ji,jj,jk,jl],[]⟩ w'):
  (Code.region 11 ops false).wp prog Q ⟨#[u0,u1,u2,u3,u4,u5,u6,u7,u8,u9,gA,gC,gD,gE,gF,gG,gH,gI,gJ,gK,gL,gM,gN,gO,gP,gQ,gR,gT,gV,gW,gX,gY,gZ,i6,i7,i8,ia,ib,ic,ie,ig,ii,ij,ik,il,im,io,ip,iq,ir,iu,iv,iw,ix,iy,iz,iA,iB,iC,iD,iE,iF,iG,iH,iI,iJ,iK,iL,iM,iN,iO,iP,iQ,iR,iS,iT,iU,iV,iW,iX,iY,iZ,j0,j1,j2,j5,j6,j7,j8,j9,jb,jd,jf,jg,jh,ji,jj,jk,jl],[]⟩ w1:=by
 simp only[Tryz.f22,Option.bind_some,z0x] at hops
 simp at hops
 subst hops;have HQ:=hd_ hQ;clear hQ;have HB0:Hid (zB w1 w1):=hd_ (Below.refl _ _);go_wp2_with fail;refine (zg2 _ _ _ _ _ rfl _).mono ?_;rintro e w2 ⟨rfl,hb⟩;dsimp only;have HP1:=hd_ (zg4 (cs:=[.string ⟨#[100]⟩,.string ⟨#[97]⟩]) hb);have HB1:=hd_ (z0r HB0.out (zg3 hb));clear hb;go_wp2_with fail;refine (zg2 _ _ _ _ _ rfl _).mono ?_;rintro e w3 ⟨rfl,hb⟩;dsimp only;have HP2:=hd_ (zg4 (cs:=[.string ⟨#[99]⟩,.string ⟨#[97]⟩]) hb);have HP1:=hd_ (HP1.out.below (zg3 hb) HP1.out.lt);have HB2:=hd_ (z0r HB1.out (zg3 hb));clear hb;go_wp2_with fail;refine (zg2 _ _ _ _ _ rfl _).mono ?_;rintro e w4 ⟨rfl,hb⟩;dsimp only;have HP3:=hd_ (zg4 (cs:=[.string ⟨#[100]⟩,.string ⟨#[98]⟩]) hb);have HP1:=hd_ (HP1.out.below (zg3 hb) HP1.out.lt);have HP2:=hd_ (HP2.out.below (zg3 hb) HP2.out.lt);have HB3:=hd_ (z0r HB2.out (zg3 hb));clear hb;go_wp2_with fail;refine (zg2 _ _ _ _ _ rfl _).mono ?_;rintro e w5 ⟨rfl,hb⟩;dsimp only;have HP4:=hd_ (zg4 (cs:=[.string ⟨#[99]⟩,.string ⟨#[98]⟩]) hb);have HP1:=hd_ (HP1.out.below (zg3 hb) HP1.out.lt);have HP2:=hd_ (HP2.out.below (zg3 hb) HP2.out.lt);have HP3:=hd_ (HP3.out.below (zg3 hb) HP3.out.lt);have HB4:=hd_ (z0r HB3.out (zg3 hb));clear hb;go_wp2_with fail;refine (zg2 _ _ _ _ _ rfl _).mono ?_;rintro e w6 ⟨rfl,hb⟩;dsimp only;have HP5:=hd_ (zg4 (cs:=[.string ⟨#[101]⟩,.string ⟨#[97]⟩]) hb);have HP1:=hd_ (HP1.out.below (zg3 hb) HP1.out.lt);have HP2:=hd_ (HP2.out.below (zg3 hb) HP2.out.lt);have HP3:=hd_ (HP3.out.below (zg3 hb) HP3.out.lt);have HP4:=hd_ (HP4.out.below (zg3 hb) HP4.out.lt);have HB5:=hd_ (z0r HB4.out (zg3 hb));clear hb;go_wp2_with fail;refine (zg2 _ _ _ _ _ rfl _).mono ?_;rintro e w7 ⟨rfl,hb⟩;dsimp only;have HP6:=hd_ (zg4 (cs:=[.string ⟨#[99]⟩,.string ⟨#[101]⟩]) hb);have HP1:=hd_ (HP1.out.below (zg3 hb) HP1.out.lt);have HP2:=hd_ (HP2.out.below (zg3 hb) HP2.out.lt);have HP3:=hd_ (HP3.out.below (zg3 hb) HP3.out.lt);have HP4:=hd_ (HP4.out.below (zg3 hb) HP4.out.lt);have HP5:=hd_ (HP5.out.below (zg3 hb) HP5.out.lt);have HB6:=hd_ (z0r HB5.out (zg3 hb))
 clear hb;go_wp2_with fail;have H:=zg7 (w2:=w7) (n:=3) (cs:=[.slice (some ⟨w1.heap.size,0,none⟩) 2 2,.bool false,.slice (some ⟨w2.heap.size,0,none⟩) 2 2,.bool false,.slice none 0 0,.slice (some ⟨w3.heap.size,0,none⟩) 2 2,.bool false,.slice (some ⟨w4.heap.size,0,none⟩) 2 2,.bool false,.slice none 0 0,.slice (some ⟨w5.heap.size,0,none⟩) 2 2,.bool false,.slice (some ⟨w6.heap.size,0,none⟩) 2 2,.bool false,.slice none 0 0]) (es:=([⟨(⟨[zfm 100,zfm 97],false⟩,some ⟨w1.heap.size,0,none⟩,2),(⟨[zfm 99,zfm 97],false⟩,some ⟨w2.heap.size,0,none⟩,2),.slice none 0 0,[]⟩,⟨(⟨[zfm 100,zfm 98],false⟩,some ⟨w3.heap.size,0,none⟩,2),(⟨[zfm 99,zfm 98],false⟩,some ⟨w4.heap.size,0,none⟩,2),.slice none 0 0,[]⟩,⟨(⟨[zfm 101,zfm 97],false⟩,some ⟨w5.heap.size,0,none⟩,2),(⟨[zfm 99,zfm 101],false⟩,some ⟨w6.heap.size,0,none⟩,2),.slice none 0 0,[]⟩]:List zcv)) HB6.out rfl rfl (by show 3≤1000;omega) (by
  intro x hx;simp only[List.mem_cons,List.not_mem_nil,or_false] at hx
  rcases hx with rfl | rfl | rfl
  ·exact⟨zg5 (l:=[zfm 100,zfm 97]) HP1.out rfl (by decide) (by decide),zg5 (l:=[zfm 99,zfm 97]) HP2.out rfl (by decide) (by decide),zg6 _,Nat.zero_le _⟩
  ·exact⟨zg5 (l:=[zfm 100,zfm 98]) HP3.out rfl (by decide) (by decide),zg5 (l:=[zfm 99,zfm 98]) HP4.out rfl (by decide) (by decide),zg6 _,Nat.zero_le _⟩
  ·exact⟨zg5 (l:=[zfm 101,zfm 97]) HP5.out rfl (by decide) (by decide),zg5 (l:=[zfm 99,zfm 101]) HP6.out rfl (by decide) (by decide),zg6 _,Nat.zero_le _⟩)
 exact HQ.out _ _ _ _ _ _ _ _ _ _ _ _ _ _ _ _ _ _ _ _ _ (hd_ ⟨rfl,H.1,H.2⟩)
theorem mpR13 (ops:Array Oper)(hops:Tryz.f22.body.bind (z0x 13)=some ops)(Q:Exit→Act→World→Prop)(w1:World)
  (hQ:∀(fP fQ fR fS fT fU fV fW fX fY fZ:Value) (es:List zcv) (A':Option Addr) (n c:Nat) (w':World),Hid (es.map zcv.pl=zfo 5∧zd1 w' (.slice A' n c) es∧zB w1 w')→Q .normal ⟨#[u0,u1,.slice A' n c,u3,u4,u5,u6,u7,u8,u9,gA,gC,gD,gE,gF,gG,gH,gI,gJ,gK,gL,gM,gN,gO,gP,gQ,gR,gT,gV,gW,gX,gY,gZ,i6,i7,i8,ia,ib,ic,ie,ig,ii,ij,ik,il,im,io,ip,iq,ir,iu,iv,iw,ix,iy,iz,iA,iB,iC,iD,iE,iF,iG,iH,iI,iJ,iK,iL,iM,iN,iO,iP,iQ,iR,iS,fP,fQ,fR,fS,fT,fU,fV,fW,fX,fY,fZ,j6,j7,j8,j9,jb,jd,jf,jg,jh,ji,jj,jk,jl],[]⟩ w'):
  (Code.region 13 ops false).wp prog Q ⟨#[u0,u1,u2,u3,u4,u5,u6,u7,u8,u9,gA,gC,gD,gE,gF,gG,gH,gI,gJ,gK,gL,gM,gN,gO,gP,gQ,gR,gT,gV,gW,gX,gY,gZ,i6,i7,i8,ia,ib,ic,ie,ig,ii,ij,ik,il,im,io,ip,iq,ir,iu,iv,iw,ix,iy,iz,iA,iB,iC,iD,iE,iF,iG,iH,iI,iJ,iK,iL,iM,iN,iO,iP,iQ,iR,iS,iT,iU,iV,iW,iX,iY,iZ,j0,j1,j2,j5,j6,j7,j8,j9,jb,jd,jf,jg,jh,ji,jj,jk,jl],[]⟩ w1:=by
 simp only[Tryz.f22,Option.bind_some,z0x] at hops
 simp at hops
 subst hops;have HQ:=hd_ hQ;clear hQ;have HB0:Hid (zB w1 w1):=hd_ (Below.refl _ _);go_wp2_with fail;refine (zg2 _ _ _ _ _ rfl _).mono ?_;rintro e w2 ⟨rfl,hb⟩;dsimp only;have HP1:=hd_ (zg4 (cs:=[.string ⟨#[101]⟩]) hb);have HB1:=hd_ (z0r HB0.out (zg3 hb));clear hb;go_wp2_with fail;refine (zg2 _ _ _ _ _ rfl _).mono ?_;rintro e w3 ⟨rfl,hb⟩;dsimp only;have HP2:=hd_ (zg4 (cs:=[.string ⟨#[99]⟩]) hb);have HP1:=hd_ (HP1.out.below (zg3 hb) HP1.out.lt);have HB2:=hd_ (z0r HB1.out (zg3 hb));clear hb;go_wp2_with fail;refine (zg2 _ _ _ _ _ rfl _).mono ?_;rintro e w4 ⟨rfl,hb⟩;dsimp only;have HP3:=hd_ (zg4 (cs:=[.string ⟨#[100]⟩,.string ⟨#[42]⟩,.string ⟨#[97]⟩]) hb);have HP1:=hd_ (HP1.out.below (zg3 hb) HP1.out.lt);have HP2:=hd_ (HP2.out.below (zg3 hb) HP2.out.lt);have HB3:=hd_ (z0r HB2.out (zg3 hb));clear hb;go_wp2_with fail;refine (zg2 _ _ _ _ _ rfl _).mono ?_;rintro e w5 ⟨rfl,hb⟩;dsimp only;have HP4:=hd_ (zg4 (cs:=[.string ⟨#[119]⟩,.string ⟨#[42]⟩,.string ⟨#[122]⟩]) hb);have HP1:=hd_ (HP1.out.below (zg3 hb) HP1.out.lt);have HP2:=hd_ (HP2.out.below (zg3 hb) HP2.out.lt);have HP3:=hd_ (HP3.out.below (zg3 hb) HP3.out.lt);have HB4:=hd_ (z0r HB3.out (zg3 hb));clear hb;go_wp2_with fail;have H:=zg7 (w2:=w5) (n:=2) (cs:=[.slice (some ⟨w1.heap.size,0,none⟩) 1 1,.bool true,.slice (some ⟨w2.heap.size,0,none⟩) 1 1,.bool true,.slice none 0 0,.slice (some ⟨w3.heap.size,0,none⟩) 3 3,.bool false,.slice (some ⟨w4.heap.size,0,none⟩) 3 3,.bool false,.slice none 0 0]) (es:=([⟨(⟨[zfm 101],true⟩,some ⟨w1.heap.size,0,none⟩,1),(⟨[zfm 99],true⟩,some ⟨w2.heap.size,0,none⟩,1),.slice none 0 0,[]⟩,⟨(⟨[zfm 100,zfn,zfm 97],false⟩,some ⟨w3.heap.size,0,none⟩,3),(⟨[zfm 119,zfn,zfm 122],false⟩,some ⟨w4.heap.size,0,none⟩,3),.slice none 0 0,[]⟩]:List zcv)) HB4.out rfl rfl (by show 2≤1000;omega) (by
  intro x hx;simp only[List.mem_cons,List.not_mem_nil,or_false] at hx
  rcases hx with rfl | rfl
  ·exact⟨zg5 (l:=[zfm 101]) HP1.out rfl (by decide) (by decide),zg5 (l:=[zfm 99]) HP2.out rfl (by decide) (by decide),zg6 _,Nat.zero_le _⟩
  ·exact⟨zg5 (l:=[zfm 100,zfn,zfm 97]) HP3.out rfl (by decide) (by decide),zg5 (l:=[zfm 119,zfn,zfm 122]) HP4.out rfl (by decide) (by decide),zg6 _,Nat.zero_le _⟩)
 exact HQ.out _ _ _ _ _ _ _ _ _ _ _ _ _ _ _ _ (hd_ ⟨rfl,H.1,H.2⟩)
theorem mpR15 (ops:Array Oper)(hops:Tryz.f22.body.bind (z0x 15)=some ops)(Q:Exit→Act→World→Prop)(w1:World)
  (hQ:∀(gf gg gh gi gj gm gn gt gu gx gy:Value) (es:List zcv) (A':Option Addr) (n c:Nat) (w':World),Hid (es.map zcv.pl=zfo 6∧zd1 w' (.slice A' n c) es∧zB w1 w')→Q .normal ⟨#[u0,u1,.slice A' n c,u3,u4,u5,u6,u7,u8,u9,gA,gC,gD,gE,gF,gG,gH,gI,gJ,gK,gL,gM,gN,gO,gP,gQ,gR,gT,gV,gW,gX,gY,gZ,i6,i7,i8,ia,ib,ic,ie,ig,ii,ij,ik,il,im,io,ip,iq,ir,iu,iv,iw,ix,iy,iz,iA,iB,iC,iD,iE,iF,iG,iH,iI,iJ,iK,iL,iM,iN,iO,iP,iQ,iR,iS,iT,iU,iV,iW,iX,iY,iZ,j0,j1,j2,j5,j6,j7,gf,gg,gh,gi,gj,gm,gn,gt,gu,gx,gy],[]⟩ w'):
  (Code.region 15 ops false).wp prog Q ⟨#[u0,u1,u2,u3,u4,u5,u6,u7,u8,u9,gA,gC,gD,gE,gF,gG,gH,gI,gJ,gK,gL,gM,gN,gO,gP,gQ,gR,gT,gV,gW,gX,gY,gZ,i6,i7,i8,ia,ib,ic,ie,ig,ii,ij,ik,il,im,io,ip,iq,ir,iu,iv,iw,ix,iy,iz,iA,iB,iC,iD,iE,iF,iG,iH,iI,iJ,iK,iL,iM,iN,iO,iP,iQ,iR,iS,iT,iU,iV,iW,iX,iY,iZ,j0,j1,j2,j5,j6,j7,j8,j9,jb,jd,jf,jg,jh,ji,jj,jk,jl],[]⟩ w1:=by
 simp only[Tryz.f22,Option.bind_some,z0x] at hops
 simp at hops
 subst hops;have HQ:=hd_ hQ;clear hQ;have HB0:Hid (zB w1 w1):=hd_ (Below.refl _ _);go_wp2_with fail;refine (zg2 _ _ _ _ _ rfl _).mono ?_;rintro e w2 ⟨rfl,hb⟩;dsimp only;have HP1:=hd_ (zg4 (cs:=[.string ⟨#[100]⟩]) hb);have HB1:=hd_ (z0r HB0.out (zg3 hb));clear hb;go_wp2_with fail;refine (zg2 _ _ _ _ _ rfl _).mono ?_;rintro e w3 ⟨rfl,hb⟩;dsimp only;have HP2:=hd_ (zg4 (cs:=[.string ⟨#[99]⟩]) hb);have HP1:=hd_ (HP1.out.below (zg3 hb) HP1.out.lt);have HB2:=hd_ (z0r HB1.out (zg3 hb));clear hb;go_wp2_with fail;refine (zg2 _ _ _ _ _ rfl _).mono ?_;rintro e w4 ⟨rfl,hb⟩;dsimp only;have HP3:=hd_ (zg4 (cs:=[.string ⟨#[101]⟩]) hb);have HP1:=hd_ (HP1.out.below (zg3 hb) HP1.out.lt);have HP2:=hd_ (HP2.out.below (zg3 hb) HP2.out.lt);have HB3:=hd_ (z0r HB2.out (zg3 hb));clear hb;go_wp2_with fail;refine (zg2 _ _ _ _ _ rfl _).mono ?_;rintro e w5 ⟨rfl,hb⟩;dsimp only;have HP4:=hd_ (zg4 (cs:=[.string ⟨#[119]⟩]) hb);have HP1:=hd_ (HP1.out.below (zg3 hb) HP1.out.lt);have HP2:=hd_ (HP2.out.below (zg3 hb) HP2.out.lt);have HP3:=hd_ (HP3.out.below (zg3 hb) HP3.out.lt);have HB4:=hd_ (z0r HB3.out (zg3 hb));clear hb;go_wp2_with fail;have H:=zg7 (w2:=w5) (n:=2) (cs:=[.slice (some ⟨w1.heap.size,0,none⟩) 1 1,.bool true,.slice (some ⟨w2.heap.size,0,none⟩) 1 1,.bool true,.slice none 0 0,.slice (some ⟨w3.heap.size,0,none⟩) 1 1,.bool true,.slice (some ⟨w4.heap.size,0,none⟩) 1 1,.bool true,.slice none 0 0]) (es:=([⟨(⟨[zfm 100],true⟩,some ⟨w1.heap.size,0,none⟩,1),(⟨[zfm 99],true⟩,some ⟨w2.heap.size,0,none⟩,1),.slice none 0 0,[]⟩,⟨(⟨[zfm 101],true⟩,some ⟨w3.heap.size,0,none⟩,1),(⟨[zfm 119],true⟩,some ⟨w4.heap.size,0,none⟩,1),.slice none 0 0,[]⟩]:List zcv)) HB4.out rfl rfl (by show 2≤1000;omega) (by
  intro x hx;simp only[List.mem_cons,List.not_mem_nil,or_false] at hx
  rcases hx with rfl | rfl
  ·exact⟨zg5 (l:=[zfm 100]) HP1.out rfl (by decide) (by decide),zg5 (l:=[zfm 99]) HP2.out rfl (by decide) (by decide),zg6 _,Nat.zero_le _⟩
  ·exact⟨zg5 (l:=[zfm 101]) HP3.out rfl (by decide) (by decide),zg5 (l:=[zfm 119]) HP4.out rfl (by decide) (by decide),zg6 _,Nat.zero_le _⟩)
 exact HQ.out _ _ _ _ _ _ _ _ _ _ _ _ _ _ _ _ (hd_ ⟨rfl,H.1,H.2⟩)
end
def zgd (D:List Rev)(p:ByteArray):Option Rev:=(zga D p).getLast?
theorem zhh (r:Rev)(w:World):Calls prog 39 #[.agg #[.string r.path,.int .i64 r.num,.int .i64 r.chg,.int .i64 r.act,.int .i64 r.ty.base,.bool r.ty.k,.bool r.ty.l,.bool r.ty.x,.int .u64 r.sum,.int .i64 r.size,.string r.frm,.int .i64 r.fnum]] w fun e w'=>e=.returned (.bool (!z30 r.act))∧zB w w':=by
 have hA:zB w (w.alloc (.cells #[.string r.path,.int .i64 r.num,.int .i64 r.chg,.int .i64 r.act,.int .i64 r.ty.base,.bool r.ty.k,.bool r.ty.l,.bool r.ty.x,.int .u64 r.sum,.int .i64 r.size,.string r.frm,.int .i64 r.fnum] 90)):=(Below.refl _ _).alloc (Nat.le_refl _) _;by_cases h3:r.act=3
 ·have q:(r.act == 3)=true:=by simpa using h3
  have HL:Hid ((!z30 r.act)=true):=hd_ (by rw[h3];rfl)
  clear h3;go_enter func39,ntmps39;go_wp2_with fail;go_ret;exact⟨z13 HL.out.symm,hA⟩
 ·have q:(r.act == 3)=false:=by simpa using h3
  by_cases h5:r.act=5
  ·have q5:(r.act == 5)=true:=by simpa using h5
   have HL:Hid ((!z30 r.act)=true):=hd_ (by rw[h5];rfl)
   clear h3 h5;go_enter func39,ntmps39;go_wp2_with fail;go_ret;exact⟨z13 HL.out.symm,hA⟩
  ·have q5:(r.act == 5)=false:=by simpa using h5
   have HL:Hid ((!z30 r.act)=false):=hd_ (by unfold z30;simp [h3,h5])
   clear h3 h5;go_enter func39,ntmps39;go_wp2_with fail;go_ret;exact⟨z13 HL.out.symm,hA⟩
open Go.Sort (grow)
section
variable {u0 u1 u2 u3 u4 u5 u6 u7 u8 u9 gA gC gD gE gF gG gH gI gJ gK gL gM gN gO gP gQ gR gT gV gW gX gY gZ i6 i7 i8 ia ib ic ie ig ii ij ik il im io ip iq ir iu iv iw ix iy iz iA iB iC iD iE iF iG iH iI iJ iK iL iM iN iO iP iQ iR iS iT iU iV iW iX iY iZ j0 j1 j2 j5 j6 j7 j8 j9 jb jd jf jg jh ji jj jk jl jm bE bF bG bH bI bJ bK bL bM bN bO bP bQ bT bU bV bW bX bY bZ cj ck cn cx cy cz cA : Value}
theorem bkR23 (ops:Array Oper)(hops:Tryz.f47.body.bind (z0x 23)=some ops)(Q:Exit→Act→World→Prop)(V1:World)(g n c i g13:Nat)(x:Syn)(hp:ByteArray)
  (hx:z58 V1 ⟨g,i * 5,none⟩ x) (hh:V1.cell? ⟨g13,0,none⟩=some (.string hp)) (hi:i<n)
  (hQ:∀(gb gf gg gh gi gj gm gn gt gu gx gy gz aa:Value) (w':World),zB V1 w'→Q .normal ⟨#[u0,.slice (some ⟨g,0,none⟩) n c,u2,u3,u4,u5,u6,u7,u8,u9,gA,gC,gD,.pointer (some ⟨g13,0,none⟩),gF,.int .i64 i,gH,gI,gJ,gK,gL,gM,gN,gO,gP,gQ,gR,gT,gV,gW,gX,gY,gZ,i6,i7,i8,ia,ib,ic,ie,ig,ii,ij,ik,il,im,io,ip,iq,ir,iu,iv,iw,ix,iy,iz,iA,iB,iC,iD,iE,iF,iG,iH,iI,iJ,iK,iL,iM,iN,iO,iP,iQ,iR,iS,iT,iU,iV,iW,iX,iY,iZ,j0,j1,j2,j5,j6,gb,gf,gg,gh,gi,gj,gm,gn,gt,gu,gx,gy,gz,aa,.bool (decide (x.path=hp) || z3t x.kind),bG,bH,bI,bJ,bK,bL,bM,bN,bO,bP,bQ,bT,bU,bV,bW,bX,bY,bZ,cj,ck,cn,cx,cy,cz,cA],[]⟩ w'):
  (Code.region 23 ops true).wp prog Q ⟨#[u0,.slice (some ⟨g,0,none⟩) n c,u2,u3,u4,u5,u6,u7,u8,u9,gA,gC,gD,.pointer (some ⟨g13,0,none⟩),gF,.int .i64 i,gH,gI,gJ,gK,gL,gM,gN,gO,gP,gQ,gR,gT,gV,gW,gX,gY,gZ,i6,i7,i8,ia,ib,ic,ie,ig,ii,ij,ik,il,im,io,ip,iq,ir,iu,iv,iw,ix,iy,iz,iA,iB,iC,iD,iE,iF,iG,iH,iI,iJ,iK,iL,iM,iN,iO,iP,iQ,iR,iS,iT,iU,iV,iW,iX,iY,iZ,j0,j1,j2,j5,j6,j7,j8,j9,jb,jd,jf,jg,jh,ji,jj,jk,jl,jm,bE,bF,bG,bH,bI,bJ,bK,bL,bM,bN,bO,bP,bQ,bT,bU,bV,bW,bX,bY,bZ,cj,ck,cn,cx,cy,cz,cA],[]⟩ V1:=by
 simp only[Tryz.f47,Option.bind_some,z0x] at hops
 simp at hops
 subst hops;have HQ:=hd_ hQ;have HST:=hd_ (fun X=>z3z x X);have cC:∀ d os,Calls prog 90 #[.agg #[.int .i64 x.kind,.string x.path,.int .i64 x.num,.string x.frm,.string x.dst]] (grow (redrawn V1 d) os) fun e w''=>e=.returned (.bool (z3t x.kind))∧∃ p:Regrown,w''=grow (redrawn V1 p.d) p.os:=fun d os=>Calls.regrown_of (HST.out _);obtain⟨s0,s1,s2,s3,s4⟩:=hx;have e0:=cell_regrown s0;have e1:=cell_regrown s1;have e2:=cell_regrown s2;have e3:=cell_regrown s3;have e4:=cell_regrown s4;have b0:=cell_regrown hh;clear s0 s1 s2 s3 s4 hh hQ;generalize z3t x.kind=b at cC HQ;by_cases h1:x.path=hp
 ·have q1:(x.path.toList == hp.toList)=true:=by rw[z42,decide_eq_true h1]
  rw[decide_eq_true h1,Bool.true_or] at HQ;clear h1;refine wp_region_quiet_below (by kernel_rfl) (by kernel_rfl) ?_
  repeat (first | go_big_quiet_step (exact cC _ _) | quiet_step (exact cC _ _))
  refine wpQuiet_nil ?_;intro _ hw9;obtain⟨⟨dq,osq⟩,hw9⟩:=hw9;subst hw9;exact HQ.out _ _ _ _ _ _ _ _ _ _ _ _ _ _ _ (below_regrown V1 dq osq)
 ·have q1:(x.path.toList == hp.toList)=false:=by rw[z42,decide_eq_false h1]
  rw[decide_eq_false h1,Bool.false_or] at HQ;clear h1;refine wp_region_quiet_below (by kernel_rfl) (by kernel_rfl) ?_
  repeat (first | go_big_quiet_step (exact cC _ _) | quiet_step (exact cC _ _))
  refine wpQuiet_nil ?_;intro _ hw9;obtain⟨⟨dq,osq⟩,hw9⟩:=hw9;subst hw9;exact HQ.out _ _ _ _ _ _ _ _ _ _ _ _ _ _ _ (below_regrown V1 dq osq)
structure Bk3 (X wr:World)(B B2:Nat)(Ap:Option Addr)(c bC:Nat)(pl:List Syn)(b:ByteArray→Bool)(QH:List Hav)(qv:Value):Prop where
 own:zj7 wr B (.slice Ap pl.length c) (zdz b pl)
 com:zjz wr X.heap.size B2 bC (zk0 pl pl.length)
 low:Below B X wr
 que:zjd wr B2 96 3 qv QH.length (QH.flatMap Hav.cells)
 b2:B2≤wr.heap.size
theorem markL_len (b:ByteArray→Bool)(pl:List Syn):(zdz b pl).length=pl.length:=List.length_map _
section
variable {X wr wx : World} {B B2 g c bC : Nat} {Ap : Option Addr} {pl : List Syn} {b : ByteArray → Bool} {QH : List Hav} {qv : Value}
theorem Bk3.under (h:Bk3 X wr B B2 Ap c bC pl b QH qv)(hb:zB wr wx)(hB:B≤B2):Bk3 X wx B B2 Ap c bC pl b QH qv:=
 ⟨z0n h.own hb,h.com.keep fun x hx _=>hb.block x (Nat.lt_of_lt_of_le hx h.b2),h.low.trans (hb.mono (Nat.le_trans hB h.b2)),h.que.below hb,Nat.le_trans h.b2 hb.size⟩
theorem Bk3.pop {x:Hav}{ad:Addr}{cq:Nat}(h:Bk3 X wr B B2 Ap c bC pl b (x :: QH) (.slice (some ad) (QH.length+1) cq)):Bk3 X wr B B2 Ap c bC pl b QH (.slice (if cq=1 then some ad else some ⟨ad.block,ad.off+3,none⟩) QH.length (cq - 1)):=by
 have hq:zjd wr B2 96 3 (.slice (some ad) (QH.length+1) cq) (QH.length+1) ((x :: QH).flatMap Hav.cells):=h.que;have ht:=hq.tail;have hd:((x :: QH).flatMap Hav.cells).drop 3=QH.flatMap Hav.cells:=by rw[List.flatMap_cons];rfl
 rw[hd] at ht;exact⟨h.own,h.com,h.low,ht,h.b2⟩
theorem Bk3.mark_ (h:Bk3 X wr B B2 (some ⟨g,0,none⟩) c bC pl b QH qv)(hs:z6j pl){k:Nat}(hk:k<pl.length)(hg:g<X.heap.size)(hB:B≤g)(hX:X.heap.size≤B2)(hC:X.heap.size≤bC):
  Bk3 X (wr.setCell ⟨g,k * 5,none⟩ (.int .i64 5)) B B2 (some ⟨g,0,none⟩) c bC pl (setB b pl[k].path) QH qv:=by
 have hk2:k<(zdz b pl).length:=by rw[markL_len];exact hk
 have ho:=zj7.put h.own hk2 5;rw[zk7 hs b hk hk2] at ho;refine⟨ho,h.com.keep fun x _ hx=>Below.heap_setCell wr ⟨g,k * 5,none⟩ _ x ?_,h.low.setCell hB _,h.que.setCell (p:=⟨g,k * 5,none⟩) (fun e=>by have h2:=(h.que.lt g e).1;omega) _,by simpa [World.setCell] using h.b2⟩
 show x≠g
 rcases hx with hx | hx
 ·omega
 ·omega
theorem Bk3.push {y:Hav}{A':Option Addr}{c':Nat}(h:Bk3 X wr B B2 Ap c bC pl b QH qv)(hB:B≤B2)(hg:∀ x,(Value.slice Ap pl.length c).ownBlock=some x→x<B2)(hq:zjd wx B2 96 3 (.slice A' (QH.length+1) c') (QH.length+1) (QH.flatMap Hav.cells++y.cells))(hs:zkb wr wx qv):
  Bk3 X wx B B2 Ap c bC pl b (QH++[y]) (.slice A' (QH.length+1) c'):=by
 have hlt:=h.que.lt;refine⟨?_,h.com.keep fun x hx _=>hs.block (Nat.lt_of_lt_of_le hx h.b2) (fun e=>by have:=(hlt x e).1;omega),hs.low h.low (Nat.le_trans hB h.b2) (fun k e=>Nat.le_trans hB (hlt k e).1),?_,Nat.le_trans h.b2 hs.size⟩
 ·refine⟨h.own.1,?_⟩;rcases h.own.2 with e | ⟨g',cap,cur,e1,h1,h2,h3⟩
  ·exact .inl e
  ·refine .inr ⟨g',cap,cur,e1,h1,(hs.block (Array.getElem?_eq_some_iff.1 h2).1 (fun e=>?_)).trans h2,h3⟩;have h5:=(hlt g' e).1;have h6:=hg g' (by rw[e1];rfl)
   omega
 ·rw[List.length_append,List.flatMap_append];have e:[y].flatMap Hav.cells=y.cells:=by simp
  rw[e];exact hq
end
end
def zms (w:World)(U g m:Nat)(e:Ending)(w':World):Prop:=∃(k:Nat) (es:List zcv) (v:Value),e=.returned v∧k<8∧es.map zcv.pl=zfo k∧zd1 w' v es∧zg0 w' U g (m+1)∧z9s [g] w w'
theorem zmt (U g m:Nat)(w:World)(hT:zg0 w U g m)(hm:m≤1000000):Calls prog 22 #[.pointer (some ⟨g,0,none⟩)] w (zms w U g m):=by
 have HN:=hd_ (zg1 U g m 8 w hT hm (by omega))
 clear hT hm;go_enter func22,ntmps22;go_upto_region 2 with fail;refine HN.out.mono ?_;rintro e w1 ⟨k,rfl,hk,hT1,hK1⟩;dsimp only;have HT:=hd_ hT1;have HK:=hd_ hK1;have h8:k=0∨k=1∨k=2∨k=3∨k=4∨k=5∨k=6∨k=7:=by obtain⟨a,b,-⟩:=hk;have:=b (by omega);omega
 clear hT1 hK1 hk HN;have HF:Hid (∀(k:Nat) (es:List zcv) (v:Value) (w':World),k<8→es.map zcv.pl=zfo k→zd1 w' v es→zB w1 w'→zms w U g m (.returned v) w'):=hd_ fun k es v w' h1 h2 h3 h4=>⟨k,es,v,rfl,h1,h2,h3,HT.out.below h4,HK.out.under h4⟩;rcases h8 with rfl | rfl | rfl | rfl | rfl | rfl | rfl | rfl
 ·as_aux_lemma =>
  go_upto_region 3 with fail;refine mpR3 _ (by kernel_rfl) _ w1 ?_
  intro t7 t8 t9 eo er et es A' n c w' H;go_wp2_with fail;go_ret;exact HF.out 0 es _ w' (by decide) H.out.1 H.out.2.1 H.out.2.2
 ·as_aux_lemma =>
  go_upto_region 5 with fail;refine mpR5 _ (by kernel_rfl) _ w1 ?_
  intro eu ez eA eB eC eD eE eF eG es A' n c w' H;go_wp2_with fail;go_ret;exact HF.out 1 es _ w' (by decide) H.out.1 H.out.2.1 H.out.2.2
 ·as_aux_lemma =>
  go_upto_region 7 with fail;refine mpR7 _ (by kernel_rfl) _ w1 ?_
  intro eJ eK eL eM eN eO eP eQ eR eS eT es A' n c w' H;go_wp2_with fail;go_ret;exact HF.out 2 es _ w' (by decide) H.out.1 H.out.2.1 H.out.2.2
 ·as_aux_lemma =>
  go_upto_region 9 with fail;refine mpR9 _ (by kernel_rfl) _ w1 ?_
  intro eW eX eY eZ fd fe ff fg fh fi fj fk fm fp fq ft es A' n c w' H;go_wp2_with fail;go_ret;exact HF.out 3 es _ w' (by decide) H.out.1 H.out.2.1 H.out.2.2
 ·as_aux_lemma =>
  go_upto_region 11 with fail;refine mpR11 _ (by kernel_rfl) _ w1 ?_
  intro fw fx fy fA fB fC fD fE fF fG fH fI fJ fK fL fM es A' n c w' H;go_wp2_with fail;go_ret;exact HF.out 4 es _ w' (by decide) H.out.1 H.out.2.1 H.out.2.2
 ·as_aux_lemma =>
  go_upto_region 13 with fail;refine mpR13 _ (by kernel_rfl) _ w1 ?_
  intro fP fQ fR fS fT fU fV fW fX fY fZ es A' n c w' H;go_wp2_with fail;go_ret;exact HF.out 5 es _ w' (by decide) H.out.1 H.out.2.1 H.out.2.2
 ·as_aux_lemma =>
  go_upto_region 15 with fail;refine mpR15 _ (by kernel_rfl) _ w1 ?_
  intro gf gg gh gi gj gm gn gt gu gx gy es A' n c w' H;go_wp2_with fail;go_ret;exact HF.out 6 es _ w' (by decide) H.out.1 H.out.2.1 H.out.2.2
 ·as_aux_lemma =>
  go_wp2_with fail;go_ret;exact HF.out 7 [] _ w1 (by decide) rfl ⟨Row.nil_ _ 5,fun x h=>by cases h⟩ (Below.refl _ _)
