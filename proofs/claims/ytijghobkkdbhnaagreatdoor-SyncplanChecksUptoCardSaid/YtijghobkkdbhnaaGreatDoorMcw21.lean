/- A part. -/
import Derived.Test.YtijghobkkdbhnaaGreatDoorMcw17
import Derived.Test.YtijghobkkdbhnaaGreatDoorMcw20
import Derived.Test.YtijghobkkdbhnaaGreatDoorMcw19
set_option linter.unusedVariables false
set_option linter.unusedSimpArgs false
set_option maxHeartbeats 8000000
set_option maxRecDepth 100000
namespace Go.Proofs.YtijghobkkdbhnaaGreatDoor
open Go.Proofs.Tryz
open Go.RowKit
open Go.Sort (grow)
def zd1 (w:World)(v:Value)(es:List zcv):Prop:=Row w 5 v es.length (es.flatMap zcv.cells)∧∀ x∈es,zcw w x
theorem zd1.below {w w':World}{v:Value}{es:List zcv}(h:zd1 w v es)(hb:zB w w'):zd1 w' v es:=⟨Row.below h.1 hb,fun x hx=>(h.2 x hx).below hb⟩
def EntAt (w:World)(a:Addr)(x:zcv):Prop:=w.cell? a=some x.l.v∧w.cell? ⟨a.block,a.off+1,none⟩=some (.bool x.l.1.rest)∧w.cell? ⟨a.block,a.off+2,none⟩=some x.r.v∧w.cell? ⟨a.block,a.off+3,none⟩=some (.bool x.r.1.rest)∧w.cell? ⟨a.block,a.off+4,none⟩=some x.hv
theorem zd1.at_ {w:World}{A:Option Addr}{c:Nat}{es:List zcv}(h:zd1 w (.slice A es.length c) es){k:Nat}(hk:k<es.length):
  ∃ ad,A=some ad∧ad.block<w.heap.size∧EntAt w (ad.add (k * 5)) es[k]:=by
 obtain⟨ad,e,hb,hc⟩:=z4f (f:=zcv.cells) (n:=5) (fun _=>rfl) h.1 hk;exact⟨ad,e,hb,hc 0 _ rfl,hc 1 _ rfl,hc 2 _ rfl,hc 3 _ rfl,hc 4 _ rfl⟩
theorem zcw.holes {w:World}{x:zcv}(h:zcw w x):∃ H c,x.hv=.slice H x.hs.length c:=by
 obtain⟨H,c,e,-⟩:=h.h.1;exact⟨H,c,e⟩
structure EntOk (x:zcv):Prop where
 rule:z9i x.l.1 x.r.1=0
 reg:zcq x.l.1 x.hs=0
 nar:∀ q∈x.hs,∃ m,zck x.l.1 x.r.1 q.1 m
structure zd2 (es:List zcv):Prop where
 len:es.length≤32
 ok:∀ x∈es,EntOk x
 apart:∀(i j:Nat) (hi:i<es.length) (hj:j<i),za2 es[i].l.1 (es[j]'(Nat.lt_trans hj hi)).l.1=none∧za2 es[i].r.1 (es[j]'(Nat.lt_trans hj hi)).r.1=none
def zd3 (wr:World)(g:Nat)(es:List zcv)(i:Nat):Prop:=∃ cs:List Value,Blk wr g 78 cs∧cs.length=es.length * 3∧∀(j:Nat) (hj:j<es.length),j<i→∃ A m c,cs[j * 3]? = some es[j].r.v∧cs[j * 3+1]? = some (.bool es[j].r.1.rest)∧cs[j * 3+2]? = some (.slice A m c)
theorem zd3.under {w w':World}{g:Nat}{es:List zcv}{i:Nat}(h:zd3 w g es i)(hb:zB w w'):zd3 w' g es i:=by
 obtain⟨cs,h1,h2,h3⟩:=h;exact⟨cs,h1.below hb h1.lt,h2,h3⟩
theorem zd3.put {w:World}{g:Nat}{es:List zcv}{i:Nat}(h:zd3 w g es i)(hi:i<es.length)(A:Option Addr)(m c:Nat):
  zd3 (((w.setCell ⟨g,i * 3,none⟩ es[i].r.v).setCell ⟨g,i * 3+1,none⟩ (.bool es[i].r.1.rest)).setCell ⟨g,i * 3+2,none⟩ (.slice A m c)) g es (i+1):=by
 obtain⟨cs,h1,h2,h3⟩:=h;refine⟨_,((h1.set_ (i * 3) _).set_ (i * 3+1) _).set_ (i * 3+2) _,by simp [h2],fun j hj hji=>?_⟩
 by_cases e:j=i
 ·subst e;refine⟨A,m,c,?_,?_,?_⟩
  ·rw[List.getElem?_set_ne (by omega),List.getElem?_set_ne (by omega),List.getElem?_set_self (by omega)]
  ·rw[List.getElem?_set_ne (by omega),List.getElem?_set_self (by simp;omega)]
  ·rw[List.getElem?_set_self (by simp;omega)]
 ·obtain⟨A',m',c',e1,e2,e3⟩:=h3 j hj (by omega)
  refine⟨A',m',c',?_,?_,?_⟩
  ·rw[List.getElem?_set_ne (by omega),List.getElem?_set_ne (by omega),List.getElem?_set_ne (by omega)];exact e1
  ·rw[List.getElem?_set_ne (by omega),List.getElem?_set_ne (by omega),List.getElem?_set_ne (by omega)];exact e2
  ·rw[List.getElem?_set_ne (by omega),List.getElem?_set_ne (by omega),List.getElem?_set_ne (by omega)];exact e3
theorem zd3.facts {w:World}{g:Nat}{es:List zcv}{i:Nat}(h:zd3 w g es i){j:Nat}(hj:j<es.length):
  ((∃ u,w.cell? ⟨g,j * 3,none⟩=some u)∧(∃ u,w.cell? ⟨g,j * 3+1,none⟩=some u)∧∃ u,w.cell? ⟨g,j * 3+2,none⟩=some u)∧w.frozen? ⟨g,j * 3,none⟩=false∧w.frozen? ⟨g,j * 3+1,none⟩=false∧w.frozen? ⟨g,j * 3+2,none⟩=false:=by
 obtain⟨cs,h1,h2,h3⟩:=h;refine⟨⟨?_,?_,?_⟩,h1.frozen _,h1.frozen _,h1.frozen _⟩
 ·exact⟨cs[j * 3]'(by omega),by rw[h1.cell,List.getElem?_eq_getElem]⟩
 ·exact⟨cs[j * 3+1]'(by omega),by rw[h1.cell,List.getElem?_eq_getElem]⟩
 ·exact⟨cs[j * 3+2]'(by omega),by rw[h1.cell,List.getElem?_eq_getElem]⟩
theorem zd3.at_ {w:World}{g:Nat}{es:List zcv}{i:Nat}(h:zd3 w g es i){j:Nat}(hj:j<es.length)(hi:j<i):
  ∃ A m c,w.cell? ⟨g,j * 3,none⟩=some es[j].r.v∧w.cell? ⟨g,j * 3+1,none⟩=some (.bool es[j].r.1.rest)∧w.cell? ⟨g,j * 3+2,none⟩=some (.slice A m c):=by
 obtain⟨cs,h1,h2,h3⟩:=h;obtain⟨A,m,c,e1,e2,e3⟩:=h3 j hj hi;exact⟨A,m,c,by rw[h1.cell,e1],by rw[h1.cell,e2],by rw[h1.cell,e3]⟩
theorem run_mkR (n:Nat)(hn:n≤1000)(w:World):(Instr.makeSlice 133 (.int .i64 n) (.int .i64 n)).run prog w=.ok (.slice (some ⟨w.heap.size,0,none⟩) n n) (w.alloc (.cells (mkL [.slice none 0 0,.bool false,.slice none 0 0] n).toArray 78)):=
 run_mk (z:=.agg #[.slice none 0 0,.bool false,.slice none 0 0]) (bytes:=56) (size:=3) underlying133 (by kernel_rfl) (by decide) (zs:=[.slice none 0 0,.bool false,.slice none 0 0]) rfl rfl n .i64 .i64 (by omega) (by omega) w
theorem zd4 {P:Program}{t e:TypeId}{size n c k:Nat}{A:Option Addr}(ht:P.underlying t=some (.slice e))(hs:∀ w,(sizeOf e).run P w=.ok size w)(hk:k≤c)(X:World):
  (Instr.sliceAt t (.slice A n c) none (some (.int .i64 k)) none).run P X=.ok (.slice A k c) X:=by
 have he:P.elem t=e:=by simp [Program.elem,ht]
 have ht':P.underlying t=some (.slice (P.elem t)):=by rw[he];exact ht
 rw[run_sliceAt_slice X t _ _ _ _ ht',run_slice_h X t A n c ht' _ _ (by omega) (by omega),he,hs]
 have h0:A.map (fun a=>a.add (0 * size))=A:=by
  cases A with
  | none=>rfl
  | some a=>simp [Addr.add]
 simp only[Result.andThen,sliced]
 rw[h0];simp
theorem zd5 (w:World):(sizeOf 71).run prog w=.ok 5 w:=by kernel_rfl
structure OneE (es:List zcv):Prop where
 len:es.length=1
 no:∀ x∈es,x.hs.length=0
theorem zd6 (es:List zcv)(v:Value)(w:World)(hE:zd1 w v es)(hM:zd2 es)(h1:OneE es):
  Calls prog 33 #[v] w fun e w'=>e=.returned (.tuple #[.int .i64 0,.int .i64 0])∧zB w w':=by
 obtain⟨A,c,rfl,-⟩:=id hE.1;have hl32:=hM.len;have HE:=hd_ hE;have HM:=hd_ hM;have HON:=hd_ h1;clear hE hM h1;go_enter func33,ntmps33;go_wp2_with fail;go_loopw [17] (fun i wr=>∃ k:Nat,i=.int .i64 k∧k≤es.length∧Hid (zB w wr)) (fun i _=>es.length - (intOf i).toNat)
 case atStart=>exact⟨0,rfl,Nat.zero_le _,hd_ (Below.refl _ _)⟩
 case round =>
  obtain⟨k,rfl,hk,HI⟩:=hrel;by_cases hlt:k<es.length
  ·have HEX:=hd_ (HE.out.below HI.out);obtain⟨ad,rfl,hab,s0,s1,s2,s3,s4⟩:=HEX.out.at_ hlt;have HXI:=hd_ (HEX.out.2 es[k] (List.getElem_mem hlt));have HXO:=hd_ (HM.out.ok es[k] (List.getElem_mem hlt));generalize es[k]=x at s0 s1 s2 s3 s4 HXI HXO;obtain⟨H,hc,hhv⟩:=HXI.out.holes;obtain⟨⟨pl,Al,cl⟩,⟨pr,Ar,cr⟩,hv,hs⟩:=x;change hv=.slice H hs.length hc at hhv;subst hhv;change wr.cell? _=some (.slice Al pl.parts.length cl) at s0;change wr.cell? _=some (.bool pl.rest) at s1;change wr.cell? _=some (.slice Ar pr.parts.length cr) at s2;change wr.cell? _=some (.bool pr.rest) at s3;change wr.cell? _=some (.slice H hs.length hc) at s4;have hX:zB wr (wr.alloc (.cells #[.slice Al pl.parts.length cl,.bool pl.rest,.slice Ar pr.parts.length cr,.bool pr.rest,.slice H hs.length hc] 71)):=(Below.refl _ _).alloc (Nat.le_refl _) _;have hXI:=HXI.out.below hX;have HC:=hd_ (zcz pl pr hs Al Ar H cl cr hc (wr.alloc (.cells #[.slice Al pl.parts.length cl,.bool pl.rest,.slice Ar pr.parts.length cr,.bool pr.rest,.slice H hs.length hc] 71)) hXI.l hXI.r hXI.h (by have:=hXI.n;exact Nat.le_trans this (by decide)) HXO.out.rule HXO.out.reg)
   have HX:=hd_ (z0r HI.out hX);have HLT:=hd_ hlt;clear hab hX hXI;go_wp2_with fail;refine HC.out.mono ?_;rintro e w4 ⟨rfl,hb⟩;have HB4:=hd_ (z0r HX.out hb);clear hb s0 s1 s2 s3 s4;go_wp2_with fail;go_roundw
   case rel=>exact⟨k+1,by go_num,by omega,HB4⟩
   case measure=>simp [intOf];omega
  ·have hke:k=es.length:=by omega
   subst hke;have q32:decide ((32:Int)<(es.length:Int))=false:=by simp;omega
   have q32':decide (32<es.length)=false:=by simp;omega
   have hmk:=run_mkR es.length (by omega)
   have hge:¬((es.length:Int)<(es.length:Int)):=by omega
   go_upto_region 10 with fail;have HR0:Hid (zd3 (wr.alloc (.cells (mkL [.slice none 0 0,.bool false,.slice none 0 0] es.length).toArray 78)) wr.heap.size es 0):=hd_ ⟨_,z0l wr _ _,by rw[z0m];rfl,fun j _ h=>by omega⟩
   have HB1:=hd_ (HI.out.alloc HI.out.size (.cells (mkL [.slice none 0 0,.bool false,.slice none 0 0] es.length).toArray 78));have hgw:w.heap.size≤wr.heap.size:=HI.out.size;generalize wr.alloc (.cells (mkL [.slice none 0 0,.bool false,.slice none 0 0] es.length).toArray 78)=W2 at HR0 HB1 ⊢;generalize wr.heap.size=g at HR0 hgw ⊢;clear hmk HI hk hlt;have HGW:=hd_ hgw;clear hgw;go_wp2_with fail;go_loopw [35] (fun i wr=>∃ k:Nat,i=.int .i64 k∧k≤es.length∧Hid (zB w wr∧zd3 wr g es k)) (fun i _=>es.length - (intOf i).toNat)
   case atStart=>exact⟨0,rfl,Nat.zero_le _,hd_ ⟨HB1.out,HR0.out⟩⟩
   case round =>
    obtain⟨k,rfl,hk,HI⟩:=hrel;by_cases hlt:k<es.length
    ·have HEX:=hd_ (HE.out.below HI.out.1);obtain⟨ad,rfl,hab,s0,s1,s2,s3,s4⟩:=HEX.out.at_ hlt;have HXI:=hd_ (HEX.out.2 es[k] (List.getElem_mem hlt));have HXO:=hd_ (HM.out.ok es[k] (List.getElem_mem hlt));have HZN:=hd_ (HON.out.no es[k] (List.getElem_mem hlt));have HPUT:=hd_ (fun X (hX:zd3 X g es k) A m c=>hX.put hlt A m c);have HFA:=hd_ (fun X (hX:zd3 X g es k)=>hX.facts hlt);generalize es[k]=x at s0 s1 s2 s3 s4 HXI HXO HPUT HZN;obtain⟨H,hc,hhv⟩:=HXI.out.holes;obtain⟨⟨pl,Al,cl⟩,⟨pr,Ar,cr⟩,hv,hs⟩:=x;change hv=.slice H hs.length hc at hhv;subst hhv;change wr.cell? _=some (.slice Al pl.parts.length cl) at s0;change wr.cell? _=some (.bool pl.rest) at s1;change wr.cell? _=some (.slice Ar pr.parts.length cr) at s2;change wr.cell? _=some (.bool pr.rest) at s3;change wr.cell? _=some (.slice H hs.length hc) at s4;have hX:zB wr (wr.alloc (.cells #[.slice Al pl.parts.length cl,.bool pl.rest,.slice Ar pr.parts.length cr,.bool pr.rest,.slice H hs.length hc] 71)):=(Below.refl _ _).alloc (Nat.le_refl _) _;have hXI:=HXI.out.below hX;have HC:=hd_ (zd0 pl pr hs Al Ar H cl cr hc (wr.alloc (.cells #[.slice Al pl.parts.length cl,.bool pl.rest,.slice Ar pr.parts.length cr,.bool pr.rest,.slice H hs.length hc] 71)) hXI.l hXI.r hXI.h hXI.n HZN.out);have HX:=hd_ hX;have HLT:=hd_ hlt;clear hab hX hXI;go_wp2_with fail;refine HC.out.mono ?_;rintro e w4 ⟨hb,A9,n9,c9,rfl⟩;have hb4:=z0r HX.out hb;have hb5:zB wr (w4.alloc (.cells #[.slice Ar pr.parts.length cr,.bool pr.rest,.slice A9 n9 c9] 78)):=hb4.alloc hb4.size _;have HRG:=hd_ (HI.out.2.under hb5);have HBW:=hd_ (z0r HI.out.1 hb5);have HN:Hid (Blk (w4.alloc (.cells #[.slice Ar pr.parts.length cr,.bool pr.rest,.slice A9 n9 c9] 78)) w4.heap.size 78 [.slice Ar pr.parts.length cr,.bool pr.rest,.slice A9 n9 c9]):=hd_ (z0l w4 _ _);clear hb hb4 hb5 s0 s1 s2 s3 s4;go_upto_region 14 with fail;generalize w4.alloc (.cells #[.slice Ar pr.parts.length cr,.bool pr.rest,.slice A9 n9 c9] 78)=W5 at HRG HBW HN ⊢;generalize w4.heap.size=g9 at HN ⊢
     obtain⟨z0,z1,z2⟩:=(⟨HN.out.cell 0,HN.out.cell 1,HN.out.cell 2⟩:W5.cell? ⟨g9,0,none⟩=some (.slice Ar pr.parts.length cr)∧W5.cell? ⟨g9,1,none⟩=some (.bool pr.rest)∧W5.cell? ⟨g9,2,none⟩=some (.slice A9 n9 c9));obtain⟨⟨⟨u0,d0⟩,⟨u1,d1⟩,⟨u2,d2⟩⟩,f0,f1,f2⟩:=HFA.out W5 HRG.out;have hzl:(k:Int)<(es.length:Int):=by omega
     go_wp2_with fail;go_roundw
     case rel=>exact⟨k+1,by go_num,by omega,hd_ ⟨((HBW.out.setCell (p:=⟨g,k * 3,none⟩) HGW.out _).setCell (p:=⟨g,k * 3+1,none⟩) HGW.out _).setCell (p:=⟨g,k * 3+2,none⟩) HGW.out _,HPUT.out W5 HRG.out A9 n9 c9⟩⟩
     case measure=>simp [intOf];omega
    ·have hke:k=es.length:=by omega
     subst hke;have HB3:=hd_ HI.out.1;have HR3:=hd_ HI.out.2;have hge:¬((es.length:Int)<(es.length:Int)):=by omega
     clear HI;have hcc:es.length≤c:=by obtain⟨A',c',e,h1,-⟩:=id HE.out.1;injection e with e1 e2 e3;omega
     go_wp2_with fail;go_loopw [55] (fun i wr=>∃ k:Nat,i=.int .i64 k∧k≤es.length∧Hid (zB w wr∧zd3 wr g es es.length)) (fun i _=>es.length - (intOf i).toNat)
     case atStart=>exact⟨0,rfl,Nat.zero_le _,hd_ ⟨HB3.out,HR3.out⟩⟩
     case round =>
      obtain⟨k,rfl,hk,HI⟩:=hrel;by_cases hlt:k<es.length
      ·have HEX:=hd_ (HE.out.below HI.out.1);obtain⟨ad,rfl,hab,s0,s1,s2,s3,s4⟩:=HEX.out.at_ hlt;have HXI:=hd_ (HEX.out.2 es[k] (List.getElem_mem hlt));have HRX:=hd_ (fun X (hX:zd3 X g es es.length)=>hX.at_ hlt hlt);generalize es[k]=x at s0 s1 s2 s3 s4 HXI HRX;obtain⟨H,hc,hhv⟩:=HXI.out.holes;obtain⟨⟨pl,Al,cl⟩,⟨pr,Ar,cr⟩,hv,hs⟩:=x;change hv=.slice H hs.length hc at hhv;subst hhv;change wr.cell? _=some (.slice Al pl.parts.length cl) at s0;change wr.cell? _=some (.bool pl.rest) at s1;change wr.cell? _=some (.slice Ar pr.parts.length cr) at s2;change wr.cell? _=some (.bool pr.rest) at s3;change wr.cell? _=some (.slice H hs.length hc) at s4;have hX:zB wr (wr.alloc (.cells #[.slice Al pl.parts.length cl,.bool pl.rest,.slice Ar pr.parts.length cr,.bool pr.rest,.slice H hs.length hc] 71)):=(Below.refl _ _).alloc (Nat.le_refl _) _;have HBX:=hd_ (z0r HI.out.1 hX);have HGX:=hd_ (HI.out.2.under hX);have HN:Hid (Blk (wr.alloc (.cells #[.slice Al pl.parts.length cl,.bool pl.rest,.slice Ar pr.parts.length cr,.bool pr.rest,.slice H hs.length hc] 71)) wr.heap.size 71 [.slice Al pl.parts.length cl,.bool pl.rest,.slice Ar pr.parts.length cr,.bool pr.rest,.slice H hs.length hc]):=hd_ (z0l wr _ _);have HXP:=hd_ (HXI.out.below hX);have hpre:=fun X=>zd4 (P:=prog) (t:=23) (n:=es.length) (c:=c) (k:=k) (A:=some ad) underlying23 zd5 (by omega) X
       have HLT:=hd_ hlt;clear hab hX;go_upto_region 21 with fail;generalize wr.alloc (.cells #[.slice Al pl.parts.length cl,.bool pl.rest,.slice Ar pr.parts.length cr,.bool pr.rest,.slice H hs.length hc] 71)=W7 at HBX HGX HN HXP ⊢;generalize wr.heap.size=g12 at HN ⊢;clear s0 s1 s2 s3 s4 HI HEX;go_wp2_with fail;go_loopw [64] (fun i wr=>∃ j:Nat,i=.int .i64 j∧j≤k∧Hid (zB W7 wr)) (fun i _=>k - (intOf i).toNat)
       case atStart=>exact⟨0,rfl,Nat.zero_le _,hd_ (Below.refl _ _)⟩
       case round =>
        obtain⟨j,rfl,hj,HJ⟩:=hrel;by_cases hlj:j<k
        ·have:=HON.out.len;omega
        ·have hke:j=k:=by omega
         subst hke;have HBE:=hd_ (z0r HBX.out HJ.out);have HGE:=hd_ (HGX.out.under HJ.out);have hge:¬((j:Int)<(j:Int)):=by omega
         clear hpre;go_wp2_with fail;go_roundw
         case rel=>exact⟨j+1,by go_num,by omega,hd_ ⟨HBE.out,HGE.out⟩⟩
         case measure=>simp [intOf];omega
      ·have hke:k=es.length:=by omega
       subst hke;have HBE:=hd_ HI.out.1;have hge:¬((es.length:Int)<(es.length:Int)):=by omega
       go_wp2_with fail;go_ret2;exact⟨rfl,HBE.out⟩
def zg0 (w:World)(U g m:Nat):Prop:=∃(l:List Int) (A:Option Addr) (c at':Nat),Blk w g 58 [.slice A l.length c,.int .i64 at']∧at'≤m∧Row w 1 (.slice A l.length c) l.length (l.map fun(n:Int)=>.int .i64 n)∧(∀ ad,A=some ad→ad.block≠g∧ad.block<U)∧g<U
theorem zg0.mono {w:World}{U g m m':Nat}(h:zg0 w U g m)(hm:m≤m'):zg0 w U g m':=by
 obtain⟨l,A,c,a,h1,h2,h3,h4⟩:=h;exact⟨l,A,c,a,h1,by omega,h3,h4⟩
theorem zg0.lt {w:World}{U g m:Nat}(h:zg0 w U g m):g<w.heap.size:=by
 obtain⟨l,A,c,a,h1,-⟩:=h;exact h1.lt
theorem zg0.ltU {w:World}{U g m:Nat}(h:zg0 w U g m):g<U:=by
 obtain⟨l,A,c,a,-,-,-,-,h1⟩:=h;exact h1
theorem zg0.below {w w':World}{U g m:Nat}(h:zg0 w U g m)(hb:zB w w'):zg0 w' U g m:=by
 obtain⟨l,A,c,a,h1,h2,h3,h4⟩:=h;exact⟨l,A,c,a,h1.below hb h1.lt,h2,h3.below hb,h4⟩
theorem zg0.keep {w w':World}{U g m:Nat}(h:zg0 w U g m)(hs:w.heap.size≤w'.heap.size)(hk:∀ x,x<U→w'.heap[x]? = w.heap[x]?):zg0 w' U g m:=by
 obtain⟨l,A,c,a,h1,h2,h3,h4,h5⟩:=h;refine⟨l,A,c,a,(hk g h5).trans h1,h2,?_,h4,h5⟩;obtain⟨A',c',e,hc,hm,hl,h00,hx⟩:=h3;refine⟨A',c',e,hc,hm,hl,h00,fun hn=>?_⟩;obtain⟨ad,e2,hb,hcell⟩:=hx hn;injection e with e3 e4 e5
 refine⟨ad,e2,by omega,fun j u hu=>?_⟩
 rw[← hcell j u hu];refine World.cell?_of_block (hk _ ?_);rw[z00];exact (h4 ad (e3.trans e2)).2
theorem row_at1 {w:World}{l:List Int}{A:Option Addr}{c k:Nat}(h:Row w 1 (.slice A l.length c) l.length (l.map fun(n:Int)=>.int .i64 n))(hk:k<l.length):∃ ad,A=some ad∧ad.block<w.heap.size∧w.cell? (ad.add k)=some (.int .i64 l[k]):=by
 obtain⟨A',c',e,hc,hm,hl,h0,hx⟩:=h;injection e with e1 e2 e3
 subst e1 e3;obtain⟨ad,rfl,hb,hcell⟩:=hx (by omega)
 refine⟨ad,rfl,hb,hcell k _ ?_⟩;rw[List.getElem?_map,List.getElem?_eq_getElem hk];rfl
theorem zg1 (U g m:Nat)(n:Int)(w:World)(hT:zg0 w U g m)(hm:m≤1000000)(hn:n≤1000000000):
  Calls prog 15 #[.pointer (some ⟨g,0,none⟩),.int .i64 n] w fun e w'=>∃ k,e=.returned (.int .i64 k)∧Under n k∧zg0 w' U g (m+1)∧z9s [g] w w':=by
 obtain⟨l,A,c,a,hB,ha,hR,hne,hgU⟩:=hT;have x0:w.cell? ⟨g,0,none⟩=some (.slice A l.length c):=hB.cell 0;have x1:w.cell? ⟨g,1,none⟩=some (.int .i64 a):=hB.cell 1;have f1:w.frozen? ⟨g,1,none⟩=false:=hB.frozen 1;have h1:IntKind.i64.wrap ((a:Int) * 7)=(a:Int) * 7:=by rw[IntKind.wrap_i64];omega
 obtain⟨r,hr⟩:∃ r,((a:Int) * 7).tmod 11=r:=⟨_,rfl⟩;have hrb:=zfy ((a:Int) * 7) 11 (by omega)
 rw[hr] at hrb;have h2:IntKind.i64.wrap r=r:=by rw[IntKind.wrap_i64];omega
 have HR:=hd_ hR;have HB:=hd_ hB;have HNE:=hd_ hne;have HF:=hd_ (fun v X=>zfz v n X hn);have HEND:Hid (∀ X,zB w X→X.heap.size=w.heap.size→zg0 (X.setCell ⟨g,1,none⟩ (.int .i64 ((a:Int)+1))) U g (m+1)∧z9s [g] w (X.setCell ⟨g,1,none⟩ (.int .i64 ((a:Int)+1)))):=hd_ (fun X hX hs=>by
  refine⟨⟨l,A,c,a+1,(hB.below hX hB.lt).set_ 1 _,by omega,?_,hne,hgU⟩,(z9s.below hX).trans (z9s.grown (z9t X g 1 _) (by simp))⟩
  refine Row.set_far (hR.below hX) ?_;intro e;cases A with
  | none=>cases e
  | some ad=>exact (hne ad rfl).1 (by simpa [Value.ownBlock] using e))
 have ham:a≤1000000:=by omega
 clear hB hR hne hn hrb hm ha;go_enter func15,ntmps15;go_upto_region 2 with fail;by_cases hlt:a<l.length
 ·have q:decide ((a:Int)<(l.length:Int))=true:=by simp;omega
  obtain⟨ad,rfl,hab,s0⟩:=row_at1 HR.out hlt;generalize l[a]=v at s0;have hz:(a:Int)<(l.length:Int):=by omega
  have hw3:IntKind.i64.wrap ((a:Int)+1)=(a:Int)+1:=by rw[IntKind.wrap_i64];omega
  clear hab hlt;go_quiet (fail)
  go_upto_region 3 with fail;go_quiet (fail)
  go_wp2_with fail;refine (HF.out v _).mono ?_;rintro e w' ⟨k,rfl,hk,rfl⟩;go_wp2_with fail;go_ret;exact⟨k,rfl,hk,HEND.out _ (z9r w _) rfl⟩
 ·have q:decide ((a:Int)<(l.length:Int))=false:=by simp;omega
  have q':decide (a<l.length)=false:=by simp;omega
  have hz:¬((a:Int)<(l.length:Int)):=by omega
  have hw3:IntKind.i64.wrap ((a:Int)+1)=(a:Int)+1:=by rw[IntKind.wrap_i64];omega
  clear hlt;go_quiet (fail)
  go_wp2_with fail;refine (HF.out r _).mono ?_;rintro e w' ⟨k,rfl,hk,rfl⟩;go_wp2_with fail;go_ret;exact⟨k,rfl,hk,HEND.out _ (z9r w _) rfl⟩
theorem z9s.grown_own {S:List Nat}{w W w':World}{row:Option Nat}(h:z9s S w W)(hg:W.grownBy w' row)(hr:∀ k,row=some k→w.heap.size≤k):z9s S w w':=
 ⟨hg.os.trans h.os,hg.tape.trans h.tape,hg.output.trans h.output,Nat.le_trans h.size hg.size,fun k hk hs=>(hg.block k (Nat.lt_of_lt_of_le hk h.size) (fun e=>by have:=hr k e.symm;omega)).trans (h.block k hk hs)⟩
theorem z9s.under {S:List Nat}{w W w':World}(h:z9s S w W)(hb:zB W w'):z9s S w w':=h.trans (z9s.below hb)
theorem zkv {S:List Nat}{w w':World}{B:Nat}{e:TypeId}{size n:Nat}{v:Value}{xs:List Value}(h:w.ownsRow B e size v n xs)(hK:z9s S w w')(hS:∀ x,v.ownBlock=some x→x∉S):w'.ownsRow B e size v n xs:=by
 refine⟨h.1,?_⟩;rcases h.2 with e1 | ⟨g,cap,cur,e1,h1,h2,h3⟩
 ·exact .inl e1
 ·exact .inr ⟨g,cap,cur,e1,h1,(hK.block g (Array.getElem?_eq_some_iff.1 h2).1 (hS g (by rw[e1];rfl))).trans h2,h3⟩
def zkw (D:List Rev):Int:=(D.getLast?.map (·.chg)).getD 0
theorem zkx {D:List Rev}{k:Nat}(hk:D.length=k+1):zkw D=(D[k]'(by omega)).chg:=by
 have e:D.getLast? = some (D[k]'(by omega)):=by
  rw[List.getLast?_eq_getElem?,show D.length - 1=k by omega,List.getElem?_eq_getElem]
 unfold zkw;rw[e];rfl
theorem zky (D:List Rev)(dv dr:Value)(w:World)(hR:z4c w dv D)(hl:D.length≤1000000):Calls prog 23 #[.agg #[dv,dr]] w fun e w'=>e=.returned (.int .i64 (zkw D))∧zB w w':=by
 obtain⟨A,c,rfl,-⟩:=id hR;have hB:=z0l w [.slice A D.length c,dr] 27;have hA:zB w (w.alloc (.cells #[.slice A D.length c,dr] 27)):=(Below.refl _ _).alloc (Nat.le_refl _) _;have HR:=hd_ (hR.below hA);have HA:=hd_ hA;clear hR hA;go_enter func23,ntmps23;go_upto_region 1 with fail;generalize w.alloc (.cells #[.slice A D.length c,dr] 27)=W1 at hB HR HA ⊢;have d0:W1.cell? ⟨w.heap.size,0,none⟩=some (.slice A D.length c):=hB.cell 0;clear hB;rcases Nat.eq_zero_or_pos D.length with h0 | h0
 ·have hD:D=[]:=List.eq_nil_of_length_eq_zero h0;subst hD;have HT:Hid (zkw []=0):=hd_ rfl;go_wp2_with fail;go_ret;exact⟨z3a HT.out.symm,HA.out⟩
 ·obtain⟨k,hk⟩:∃ k,D.length=k+1:=⟨D.length - 1,by omega⟩
  obtain⟨ad,rfl,hab,hc⟩:=HR.out.at_ (k:=k) (by omega)
  have HT:=hd_ (zkx hk);generalize D[k]=r at hc HT;obtain⟨-,-,c2,-⟩:=hc;have q0:((D.length:Int) == 0)=false:=by rw[beq_eq_false_iff_ne];omega
  have q1:IntKind.i64.wrap ((D.length:Int) - 1)=(k:Int):=by rw[IntKind.wrap_i64];omega
  have q2:¬((k:Int)<0):=by omega
  have q3:(k:Int)<(D.length:Int):=by omega
  have q4:¬ D=[]:=by rintro rfl;simp at hk
  clear hk h0 hl;go_wp2_with fail;go_ret;exact⟨z3a HT.out.symm,HA.out⟩
theorem zkz (w:World):Calls prog 26 #[] w fun e w'=>e=.returned (.slice (some ⟨w.heap.size,0,none⟩) 6 6)∧w'=w.alloc (.cells (zf0.map Value.string).toArray 9):=by
 go_enter func26,ntmps26;go_wp2_with fail;go_ret;exact⟨rfl,rfl⟩
theorem zl0 (w:World):Calls prog 16 #[] w fun e w'=>e=.returned (.slice (some ⟨w.heap.size,0,none⟩) 8 8)∧w'=w.alloc (.cells (zks.map Value.string).toArray 9):=by
 go_enter func16,ntmps16;go_wp2_with fail;go_ret;exact⟨rfl,rfl⟩
theorem zl1 (x:Syn)(w:World):Calls prog 17 #[.agg #[.int .i64 x.kind,.string x.path,.int .i64 x.num,.string x.frm,.string x.dst]] w fun e w'=>e=.returned (.bool (z3t x.kind))∧zB w w':=by
 have hA:zB w (w.alloc (.cells #[.int .i64 x.kind,.string x.path,.int .i64 x.num,.string x.frm,.string x.dst] 50)):=(Below.refl _ _).alloc (Nat.le_refl _) _;obtain⟨z0,-⟩:=z3w (x:=x) (z0l w [.int .i64 x.kind,.string x.path,.int .i64 x.num,.string x.frm,.string x.dst] 50);rcases z3y x.kind with⟨h1,h2,h3⟩ | ⟨h1,h2,h3,h4,h5⟩ | ⟨h1,h2,h3,h4,h5⟩
 ·go_enter func17,ntmps17;go_wp2_with fail;go_ret;exact⟨z13 h3.symm,hA⟩
 ·go_enter func17,ntmps17;go_wp2_with fail;go_ret;exact⟨z13 h5.symm,hA⟩
 ·go_enter func17,ntmps17;go_wp2_with fail;go_ret;exact⟨z13 h5.symm,hA⟩
theorem zl2:z0e prog 29 9 1 16:=z0f underlying29 (z:=.string ⟨#[]⟩) (by kernel_rfl) rfl (by decide)
theorem hI_lt {w:World}{B g:Nat}{e:TypeId}{size n:Nat}{v:Value}{xs:List Value}(h:w.ownsRow B e size v n xs)(hg:g<B):∀ x,v.ownBlock=some x→x≠g:=fun x hx=>by have:=(h.lt x hx).1;omega
structure FewSt (w wr:World)(U g m:Nat)(l l':List ByteArray)(v:Value):Prop where
 own:wr.ownsRow w.heap.size 9 1 v l'.length (l'.map .string)
 tape:zg0 wr U g (m+1+l'.length)
 kept:z9s [g] w wr
 sub:∀ x∈l',x∈l
def zl3 (w:World)(U g m:Nat)(l:List ByteArray)(e:Ending)(w':World):Prop:=∃(l':List ByteArray) (v:Value),e=.returned v∧Strs w' v l'∧l'.length≤2∧(∀ x∈l',x∈l)∧zg0 w' U g (m+3)∧z9s [g] w w'∧∀ x,v.ownBlock=some x→w.heap.size≤x
theorem zl4 (U g m:Nat)(l:List ByteArray)(A:Option Addr)(c:Nat)(w:World)(hT:zg0 w U g m)(hU:U≤w.heap.size)(hm:m≤100000)(hL:∀ W,z9s [g] w W→Strs W (.slice A l.length c) l)(h0:0<l.length)(hl:l.length≤1000):
  Calls prog 25 #[.pointer (some ⟨g,0,none⟩),.slice A l.length c] w (zl3 w U g m l):=by
 have hg:=hT.lt;have HN:=hd_ (zg1 U g m 3 w hT (by omega) (by omega))
 have HL:=hd_ hL;clear hT hL;go_enter func25,ntmps25;go_wp2_with (refine HN.out.mono ?_;rintro e w1 ⟨k,rfl,hk,hT1,hK1⟩)
 obtain⟨j,rfl⟩:∃ j:Nat,k=j:=⟨k.toNat,by have:=hk.1;omega⟩
 have hj2:j≤2:=by have:=hk.2.1 (by omega);omega
 have HS0:Hid (FewSt w w1 U g m l [] (.slice none 0 0)):=hd_ ⟨World.ownsRow_nil _ _ _ _,hT1,hK1,fun x h=>by cases h⟩
 clear hk hT1 hK1 HN;go_loopw [5,6] (fun v i wr=>∃(j:Nat) (l':List ByteArray) (A':Option Addr) (c':Nat),v=.slice A' l'.length c'∧i=.int .i64 j∧l'.length+j≤2∧Hid (FewSt w wr U g m l l' v)) (fun _ i _=>(intOf i).toNat)
 case atStart=>exact⟨j,[],none,0,rfl,rfl,by simpa using hj2,HS0⟩
 case round =>
  obtain⟨j,l',A',c',rfl,rfl,hlj,HI⟩:=hrel;by_cases h1:0<j
  ·have q1:decide ((0:Int)<(j:Int))=true:=by simp;omega
   have q2:decide ((0:Int)<(l.length:Int))=true:=by simp;omega
   have HX:=hd_ (zg1 U g (m+1+l'.length) l.length wr HI.out.tape (by omega) (by omega))
   go_wp2_with (refine HX.out.mono ?_;rintro e w2 ⟨k,rfl,hk,hT2,hK2⟩)
   obtain⟨kk,rfl⟩:∃ kk:Nat,k=kk:=⟨k.toNat,by have:=hk.1;omega⟩
   have hkk:kk<l.length:=by
    rcases Nat.lt_or_ge 1 l.length with h | h
    ·have:=hk.2.1 (by omega);omega
    ·have:=hk.2.2 (by omega);omega
   obtain⟨ad,rfl,hab,s0⟩:=Strs.at_ (HL.out w2 (HI.out.kept.trans hK2)) hkk;have HQM:=hd_ (show l[kk]∈l from List.getElem_mem hkk);generalize l[kk]=q at s0 HQM;have hgl:=hI_lt HI.out.own hg;have hown2:w2.ownsRow w.heap.size 9 1 (.slice A' l'.length c') l'.length (l'.map .string):=zkv HI.out.own hK2 (fun x hx=>by rw[List.mem_singleton];exact hgl x hx)
   have HOWN:=hd_ (z0v hown2 (.cells #[.string q] 9));have HT2:=hd_ hT2;have HK2:=hd_ (HI.out.kept.trans hK2);have hb2:w.heap.size≤(w2.alloc (.cells #[.string q] 9)).heap.size:=by have:=HK2.out.size;simp;omega
   have HH1:=hd_ h1;clear hk hT2 hK2 hown2 hgl h1;go_wp2_with fail;go_simp
   go_wp2_with (at_builtin;refine z0j (base:=w.heap.size) rfl rfl zl2 HOWN.out rfl (z0i w2 [.string q] _ 1 1 rfl (by decide) _ (by simp)) rfl (by simp [Value.oneCell']) (by omega) (by unfold maxLen;omega) hb2 ?_;intro A6 c6 w6 hO6 hG6 hw6)
   have HN6:Hid (FewSt w w6 U g m l (l'++[q]) (.slice A6 (l'.length+1) c6)):=hd_ (by
    have hK6:z9s [g] w w6:=(HK2.out.under ((Below.refl _ _).alloc (Nat.le_refl _) _)).grown_own hG6 (fun k e=>(HOWN.out.lt k e).1);refine⟨?_,?_,hK6,fun x hx=>?_⟩
    ·rw[List.length_append,List.map_append];exact hO6
    ·have ht:=(HT2.out.below ((Below.refl _ _).alloc (Nat.le_refl _) (.cells #[.string q] 9)));have ht2:=ht.keep hG6.size (fun x hx=>hG6.block x (by simp;have:=HK2.out.size;omega) (fun e=>by have:=(HOWN.out.lt x e.symm).1;omega))
     rw[List.length_append];exact ht2
    ·rcases List.mem_append.1 hx with hx | hx
     ·exact HI.out.sub x hx
     ·rw[List.mem_singleton] at hx;rw[hx];exact HQM.out)
   have h1:=HH1.out;have q5:IntKind.i64.wrap ((j:Int) - 1)=((j - 1:Nat):Int):=by rw[IntKind.wrap_i64];omega
   clear hO6 hG6 hw6;go_wp2_with fail;go_roundw
   case rel=>exact⟨j - 1,l'++[q],A6,c6,by rw[List.length_append];rfl,by first | rfl | go_num,by rw[List.length_append];simp;omega,HN6⟩
   case measure=>simp [intOf];omega
  ·have h0j:j=0:=by omega
   subst h0j;have q1:decide ((0:Int)<((0:Nat):Int))=false:=by simp
   have HF:=hd_ (fun(X:World) (hX:X=wr)=>(⟨l',_,rfl,Row.of_own HI.out.own,by omega,HI.out.sub,HI.out.tape.mono (by omega),HI.out.kept,fun x hx=>(HI.out.own.lt x hx).1⟩:zl3 w U g m l (.returned (.slice A' l'.length c')) wr))
   go_wp2_with fail;go_ret;exact HF.out _ rfl
theorem z4h.under {w w':World}{v:Value}{l:List Hav}(h:z4h w v l)(hb:zB w w'):z4h w' v l:=Row.below h hb
theorem zlj (l:List Hav)(v:Value)(p:ByteArray)(w:World)(he:Env w)(hH:z4h w v l)(hv:∀ x∈l,z2x x.path=true∧x.path.size≤1000000)(hp:z2x p=true)(hz:p.size≤1000000)(hl:l.length≤1000000):
  Calls prog 80 #[v,.string p] w fun e w'=>e=.returned (.tuple #[.int .i64 (zl5 l p).1,.bool (zl5 l p).2])∧zB w w':=by
 obtain⟨A,c,rfl,-⟩:=id hH;have HE:=hd_ he;have HH:=hd_ hH;have HV:=hd_ hv;have HP:=hd_ hp;have HZ:=hd_ hz;clear he hH hv hp hz;go_enter func80,ntmps80;go_wp2_with fail;go_loopw [6] (fun i wr=>∃ k:Nat,i=.int .i64 k∧k≤l.length∧Hid ((∀ j (hj:j<l.length),j<k→l[j].path≠p∧¬ 0<z2z l[j].path p)∧zB w wr)) (fun i _=>l.length - (intOf i).toNat)
 case atStart=>exact⟨0,rfl,Nat.zero_le _,hd_ ⟨fun j _ h=>by omega,Below.refl _ _⟩⟩
 case round =>
  obtain⟨k,rfl,hk,HI⟩:=hrel;by_cases hlt:k<l.length
  ·obtain⟨ad,rfl,hab,s0,-,-⟩:=z4h.at_ (HH.out.under HI.out.2) hlt;have HVK:=hd_ (HV.out l[k] (List.getElem_mem hlt));have HAT:=hd_ (zl8 (p:=p) hlt HI.out.1);have HNX:Hid (l[k].path≠p→¬ 0<z2z l[k].path p→∀ j (hj:j<l.length),j<k+1→l[j].path≠p∧¬ 0<z2z l[j].path p):=hd_ fun h1 h2 j hj hjk=>by
    by_cases e:j=k
    ·subst e;exact⟨h1,h2⟩
    ·exact HI.out.1 j hj (by omega)
   generalize l[k].path=q at s0 HVK HAT HNX;have HOR:=hd_ (zha q p wr (HE.out.below HI.out.2) (by have:=HVK.out.2;omega) (by have:=HZ.out;omega))
   rw[zh9 HVK.out.1 HP.out] at HOR;have HB:=hd_ HI.out.2;have HLT:=hd_ hlt;by_cases h1:q=p
   ·have q1:(q.toList == p.toList)=true:=by rw[z42,decide_eq_true h1]
    have HR:=hd_ (HAT.out.1 h1);clear h1;go_wp2_with fail;go_ret2;rw[HR.out];exact⟨rfl,HB.out⟩
   ·have q1:(q.toList == p.toList)=false:=by rw[z42,decide_eq_false h1]
    have HN1:=hd_ h1;clear h1;obtain⟨n,hn⟩:∃ n,z2z q p=n:=⟨_,rfl⟩;have HN:=hd_ hn;rw[hn] at HOR;clear hn;by_cases h2:0<n
    ·have q2:decide (0<n)=true:=decide_eq_true h2;have HR:=hd_ (HAT.out.2 HN1.out (by rw[HN.out];exact h2))
     clear h2;go_wp2_with fail;refine HOR.out.mono ?_;rintro e w2 ⟨rfl,hb⟩;have HB2:=hd_ (z0r HB.out hb);clear hb s0;go_wp2_with fail;go_ret2;rw[HR.out];exact⟨rfl,HB2.out⟩
    ·have q2:decide (0<n)=false:=decide_eq_false h2;have HR:=hd_ (HNX.out HN1.out (by rw[HN.out];exact h2))
     clear h2;go_wp2_with fail;refine HOR.out.mono ?_;rintro e w2 ⟨rfl,hb⟩;have HB2:=hd_ (z0r HB.out hb);clear hb s0;go_wp2_with fail;go_roundw
     case rel=>exact⟨k+1,by go_num,by have:=HLT.out;omega,hd_ ⟨fun j hj h=>⟨(HR.out j hj h).1,Int.not_lt.2 (HR.out j hj h).2⟩,HB2.out⟩⟩
     case measure=>have:=HLT.out;simp [intOf];omega
  ·have hke:k=l.length:=by omega
   have HR:=hd_ (zl9 (l:=l) (p:=p) fun j hj=>HI.out.1 j hj (by omega))
   have HB:=hd_ HI.out.2;subst hke;clear HI;go_wp2_with fail;go_ret2;rw[HR.out];exact⟨rfl,HB.out⟩
section
variable {u0 u1 u2 u3 u4 u5 u6 u7 u8 u9 gA gC gD gE gF gG gH gI gJ gK gL gM gN gO gP gQ gR gT gV gW : Value}
theorem zlk {P:Program}{w:World}{t e:TypeId}{size n c hi:Nat}{A:Option Addr}{xs:List Value}(ht:P.underlying t=some (.slice e))(hs:∀ w,(sizeOf e).run P w=.ok size w)
  (h:Row w size (.slice A n c) n xs) (h2:hi≤n):
  ∃ A' c',(∀ X,(Instr.sliceAt t (.slice A n c) none (some (.int .i64 hi)) none).run P X=.ok (.slice A' hi c') X)∧∀ W:World,Row W size (.slice A n c) n xs→Row W size (.slice A' hi c') hi (xs.take (hi * size)):=by
 have hc:n≤c:=by obtain⟨A',c',e,hc,_⟩:=id h;injection e with e1 e2 e3;omega
 have he:P.elem t=e:=by simp [Program.elem,ht]
 have ht':P.underlying t=some (.slice (P.elem t)):=by rw[he];exact ht
 have hr:∀ W:World,Row W size (.slice A n c) n xs→Row W size (.slice (if c=0 then A else A.map (·.add 0)) hi c) hi (xs.take (hi * size)):=fun W hW=>by
  have hr:=Row.slice hW (Nat.zero_le hi) h2;simp only[Nat.zero_mul,List.drop_zero,Nat.sub_zero] at hr
  exact hr
 refine⟨_,_,fun X=>?_,hr⟩
 ·rw[run_sliceAt_slice X t _ _ _ _ ht',run_slice_h X t A n c ht' _ _ (by omega) (by omega),he,hs]
  simp [Result.andThen,sliced]
theorem zll {P:Program}{w:World}{t e:TypeId}{size n c lo:Nat}{A:Option Addr}{xs:List Value}(ht:P.underlying t=some (.slice e))(hs:∀ w,(sizeOf e).run P w=.ok size w)
  (h:Row w size (.slice A n c) n xs) (h1:lo≤n):
  ∃ A' c',(∀ X,(Instr.sliceAt t (.slice A n c) (some (.int .i64 lo)) none none).run P X=.ok (.slice A' (n - lo) c') X)∧∀ W:World,Row W size (.slice A n c) n xs→Row W size (.slice A' (n - lo) c') (n - lo) (xs.drop (lo * size)):=by
 have he:P.elem t=e:=by simp [Program.elem,ht]
 have ht':P.underlying t=some (.slice (P.elem t)):=by rw[he];exact ht
 have hr:∀ W:World,Row W size (.slice A n c) n xs→Row W size (.slice (if c=lo then A else A.map (·.add (lo * size))) (n - lo) (c - lo)) (n - lo) (xs.drop (lo * size)):=fun W hW=>by
  have hr:=Row.slice hW h1 (Nat.le_refl _);rw[List.take_of_length_le (by rw[List.length_drop,h.len,← Nat.sub_mul];exact Nat.le_refl _)] at hr
  exact hr
 refine⟨_,_,fun X=>?_,hr⟩
 ·rw[run_sliceAt_slice X t _ _ _ _ ht',run_slice_l X t A n c ht' _ _ (by omega) (by omega),he,hs]
  simp [Result.andThen,sliced]
theorem zlm (l:List Hav):∀ v∈l.flatMap Hav.cells,v.oneCell'=true:=by
 intro v hv;obtain⟨x,-,hx⟩:=List.mem_flatMap.1 hv;exact z5b x v hx
theorem zln (l:List Hav)(i:Nat):(l.flatMap Hav.cells).take (i * 3)=(l.take i).flatMap Hav.cells:=by
 induction l generalizing i with
 | nil=>simp
 | cons x l ih =>
  cases i with
  | zero=>simp
  | succ i =>
   have e:(i+1) * 3=3+i * 3:=by omega
   rw[List.take_succ_cons,List.flatMap_cons,List.flatMap_cons,← ih,e];exact List.take_length_add_append (l₁:=x.cells) (i * 3)
theorem zlo (l:List Hav)(i:Nat):(l.flatMap Hav.cells).drop (i * 3)=(l.drop i).flatMap Hav.cells:=by
 induction l generalizing i with
 | nil=>simp
 | cons x l ih =>
  cases i with
  | zero=>simp
  | succ i =>
   have e:(i+1) * 3=3+i * 3:=by omega
   rw[List.drop_succ_cons,List.flatMap_cons,← ih,e];exact List.drop_length_add_append (l₁:=x.cells) (i * 3)
theorem zlp {w w':World}{v:Value}(hG:w.grownBy w' v.ownBlock)(hv:v.ownBlock=none):zB w w':=⟨hG.os,hG.tape,hG.output,hG.size,fun k hk=>hG.block k hk (by rw[hv];simp)⟩
theorem puR2 (ops:Array Oper)(hops:Tryz.f40.body.bind (z0x 2)=some ops)(Q:Exit→Act→World→Prop)(V:World)(A:Option Addr)(c g3 i:Nat)(l:List Hav)(h:Hav)
  (hH:z4h V (.slice A l.length c) l) (hB:Blk V g3 96 [.string h.path,.int .i64 h.num,.string h.loc]) (hi:i≤l.length) (hl:l.length≤1000000)
  (hQ:∀(eu ez eA eB eC eD eE:Value) (A':Option Addr) (c':Nat) (w':World),Hid (zB V w'∧w'.ownsRow V.heap.size 96 3 (.slice A' (i+1) c') (i+1) ((l.take i++[h]).flatMap Hav.cells))→Q .normal ⟨#[.slice A l.length c,u1,u2,.pointer (some ⟨g3,0,none⟩),u4,.int .i64 i,u6,.slice A' (i+1) c',u8,u9,gA,gC,gD,gE,gF,eu,ez,eA,eB,eC,eD,eE,gN,gO,gP,gQ,gR,gT,gV,gW],[]⟩ w'):
  (Code.region 2 ops true).wp prog Q ⟨#[.slice A l.length c,u1,u2,.pointer (some ⟨g3,0,none⟩),u4,.int .i64 i,u6,u7,u8,u9,gA,gC,gD,gE,gF,gG,gH,gI,gJ,gK,gL,gM,gN,gO,gP,gQ,gR,gT,gV,gW],[]⟩ V:=by
 simp only[Tryz.f40,Option.bind_some,z0x] at hops
 simp at hops
 subst hops;obtain⟨Ai,ci,hsl,hrw⟩:=zlk (P:=prog) (w:=V) underlying28 zi8 hH hi;have HQ:=hd_ hQ;have HROW:Hid (∀ W,zB V W→Row W 3 (.slice Ai i ci) i ((l.take i).flatMap Hav.cells)):=hd_ fun W hW=>by rw[← zln];exact hrw W (z4h.under hH hW)
 have HONE:Hid (∀ v∈(l.take i).flatMap Hav.cells,v.oneCell'=true):=hd_ (zlm _);have HF:Hid (∀ w',zB V w'→w'.cell? ⟨g3,0,none⟩=some (.string h.path)∧w'.cell? ⟨g3,1,none⟩=some (.int .i64 h.num)∧w'.cell? ⟨g3,2,none⟩=some (.string h.loc)):=hd_ fun w' hb=>z3x (hB.below hb hB.lt);have HCAT:Hid ((l.take i).flatMap Hav.cells++[.string h.path,.int .i64 h.num,.string h.loc]=(l.take i++[h]).flatMap Hav.cells):=hd_ (by rw[List.flatMap_append];rfl)
 clear hQ hH hB hrw;obtain⟨f0,f1,f2⟩:=HF.out V (Below.refl _ _);refine wp_region_noPanic ?_;go_region_law (first
   | (refine z0t (base:=V.heap.size) (n:=0) (xs:=[]) rfl rfl z5a (World.ownsRow_nil _ _ _ _) (by simp [Act.eval,Act.put];done) (HROW.out _ (Below.refl _ _).drew) (by simp [Act.eval,Act.put];done) HONE.out (by omega) (by unfold maxLen;omega) (by simp) ?_;intro A5 c5 w5 hO5 hG5 hw5;have hX5:=zlp hG5 rfl;have hS5:zB V w5:=(Below.refl _ _).drew.trans hX5;obtain⟨f5,f6,f7⟩:=HF.out w5 hS5;rw[Nat.zero_add,List.nil_append] at hO5)
   | (refine z0t (base:=V.heap.size) (n:=0) (xs:=[]) rfl rfl z5a (World.ownsRow_nil _ _ _ _) (by simp [Act.eval,Act.put];done) (HROW.out _ (by first | exact z0u (Below.refl _ _).drew _ | exact (z0u (Below.refl _ _) _).drew)) (by simp [Act.eval,Act.put];done) HONE.out (by omega) (by unfold maxLen;omega) (Below.size (by first | exact z0u (Below.refl _ _).drew _ | exact (z0u (Below.refl _ _) _).drew)) ?_;intro A5 c5 w5 hO5 hG5 hw5;have hX5:=zlp hG5 rfl;have hS5:zB V w5:=z0r (by first | exact z0u (Below.refl _ _).drew _ | exact (z0u (Below.refl _ _) _).drew) hX5;have hQ5:Blk w5 V.heap.size 96 [.string h.path,.int .i64 h.num,.string h.loc]:=Blk.below' (by first | exact z0l V.drew _ _ | exact Blk.drew' (z0l V _ _)) hX5;rw[Nat.zero_add,List.nil_append] at hO5)
   | (refine z0t rfl rfl z5a (z0n hO5 ((Below.refl _ _).alloc (Nat.le_refl _) _)) (by simp [Act.eval,Act.put];done) (z0i w5 [.string h.path,.int .i64 h.num,.string h.loc] _ 3 1 rfl (by decide) _ rfl) (by simp [Act.eval,Act.put];done) (by simp [Value.oneCell']) (by omega) (by unfold maxLen;omega) (by have:=hS5.size;simp;omega) ?_;intro A6 c6 w6 hO6 hG6 hw6;have hS6:zB V w6:=(hS5.alloc hS5.size _).grown hG6 (hS5.alloc hS5.size _).size (fun k e=>(hO5.lt k e).1))
   | (refine z0t rfl rfl z5a hO5 (by simp [Act.eval,Act.put];done) (hQ5.row (size:=3) (n:=1) rfl (by decide)) (by simp [Act.eval,Act.put];done) (by simp [Value.oneCell']) (by omega) (by unfold maxLen;omega) hS5.size ?_;intro A6 c6 w6 hO6 hG6 hw6;have hS6:zB V w6:=hS5.grown hG6 hS5.size (fun k e=>(hO5.lt k e).1)))
 all_goals exact NoPanic.normal (HQ.out _ _ _ _ _ _ _ _ _ _ (hd_ ⟨hS6,by rw[← HCAT.out];exact hO6⟩))
end
def zm4 (w:World)(v:Value)(b:Bool)(e:Ending)(w':World):Prop:=zB w w'∧∃ H n c,e=.returned (.agg #[v,.bool b,.slice H n c])
theorem zm5 (T:Code)(hT:Tryz.f63.body.bind (zhg 9)=some T)(w W:World)(A:Option Addr)(n a g2 g4:Nat)(b:Bool)(hP:zb5 W g2 (.slice A n a) b)(hR:Blk W g4 78 [.slice none 0 0,.bool false,.slice none 0 0])(hb:zB w W)(h4:w.heap.size≤g4)
  (u0 u1 u3 u6 u7 u8 u9 gA gC gD gE gF gG gH gI gJ gK gL gM gN gO gP gQ gR gT gV gW gX gY gZ i6 i7 i8 ia ib ic ie ig ii ij ik il im io ip iq ir iu iv iw ix iy iz iA iB iC iD iE iF iG iH iI iJ iK iL iM iN iO iP iQ iR iS iT iU iV iW iX iY iZ j0 j1 j2 j5 j6 j7 j8 j9 jb jd jf jg jh ji jj jk jl jm bE bF bG bH bI bJ bK bL bM bN bO bP bQ bT bU bV bW bX bY bZ cj ck:Value):
  T.wp prog (bodyPost prog Tryz.f63 (zm4 w (.slice A n a) b)) ⟨#[u0,u1,.pointer (some ⟨g2,0,none⟩),u3,.pointer (some ⟨g4,0,none⟩),.slice none 0 0,u6,u7,u8,u9,gA,gC,gD,gE,gF,gG,gH,gI,gJ,gK,gL,gM,gN,gO,gP,gQ,gR,gT,gV,gW,gX,gY,gZ,i6,i7,i8,ia,ib,ic,ie,ig,ii,ij,ik,il,im,io,ip,iq,ir,iu,iv,iw,ix,iy,iz,iA,iB,iC,iD,iE,iF,iG,iH,iI,iJ,iK,iL,iM,iN,iO,iP,iQ,iR,iS,iT,iU,iV,iW,iX,iY,iZ,j0,j1,j2,j5,j6,j7,j8,j9,jb,jd,jf,jg,jh,ji,jj,jk,jl,jm,bE,bF,bG,bH,bI,bJ,bK,bL,bM,bN,bO,bP,bQ,bT,bU,bV,bW,bX,bY,bZ,cj,ck],[]⟩ W:=by
 simp only[Tryz.f63,Option.bind_some,zhg,zhf] at hT
 simp at hT
 subst hT;have HP:=hd_ hP;have HR:=hd_ hR;have HB:=hd_ hb;clear hP hR hb;go_wp2_with fail;go_loopw [38] (fun i wr=>i=.int .i64 0∧wr=W) (fun i _=>0)
 case atStart=>exact⟨rfl,rfl⟩
 case round =>
  obtain⟨rfl,rfl⟩:=hrel;have x0:=HP.out.c0;have x1:=HP.out.c1;go_wp2_with fail;have hX:zB wr (wr.alloc (.cells #[.slice A n a,.bool b,.slice none 0 0] 78)):=(Below.refl _ _).alloc (Nat.le_refl _) _;have HZ:=hd_ (z0l wr [.slice A n a,.bool b,.slice none 0 0] 78);have HR2:=hd_ (HR.out.below hX HR.out.lt);have HB2:=hd_ (z0r HB.out hX);have HLT:=hd_ HR.out.lt;clear hX x0 x1;generalize wr.alloc (.cells #[.slice A n a,.bool b,.slice none 0 0] 78)=W2 at HZ HR2 HB2 ⊢;generalize wr.heap.size=g12 at HZ HLT ⊢;go_loopw [81] (fun i wr=>i=.int .i64 0∧wr=W2) (fun i _=>0)
  case atStart=>exact⟨rfl,rfl⟩
  case round =>
   obtain⟨rfl,rfl⟩:=hrel;obtain⟨z0,z1,z2⟩:=(⟨HZ.out.cell 0,HZ.out.cell 1,HZ.out.cell 2⟩:wr.cell? ⟨g12,0,none⟩=some (.slice A n a)∧wr.cell? ⟨g12,1,none⟩=some (.bool b)∧wr.cell? ⟨g12,2,none⟩=some (.slice none 0 0));obtain⟨u0,u1,u2⟩:=(⟨HR2.out.cell 0,HR2.out.cell 1,HR2.out.cell 2⟩:wr.cell? ⟨g4,0,none⟩=some (.slice none 0 0)∧wr.cell? ⟨g4,1,none⟩=some (.bool false)∧wr.cell? ⟨g4,2,none⟩=some (.slice none 0 0));obtain⟨v0,v1,v2⟩:=(⟨HR2.out.frozen 0,HR2.out.frozen 1,HR2.out.frozen 2⟩:wr.frozen? ⟨g4,0,none⟩=false∧wr.frozen? ⟨g4,1,none⟩=false∧wr.frozen? ⟨g4,2,none⟩=false);go_wp2_with fail;have hE:=((HR2.out.set_ 0 (.slice A n a)).set_ 1 (.bool b)).set_ 2 (.slice none 0 0);have hb:=((HB2.out.setCell (p:=⟨g4,0,none⟩) h4 (.slice A n a)).setCell (p:=⟨g4,1,none⟩) h4 (.bool b)).setCell (p:=⟨g4,2,none⟩) h4 (.slice none 0 0);generalize ((wr.setCell ⟨g4,0,none⟩ (.slice A n a)).setCell ⟨g4,1,none⟩ (.bool b)).setCell ⟨g4,2,none⟩ (.slice none 0 0)=W3 at hE hb ⊢;have e0:=hE.cell 0;have e1:=hE.cell 1;have e2:=hE.cell 2;exact bodyPost_ret (v:=.agg #[.slice A n a,.bool b,.slice none 0 0]) (by simp [results,results63,go_sem,e0,e1,e2]) rfl ⟨hb,_,_,_,rfl⟩
theorem znl (p:Pat)(b:Bool)(hbr:p.rest=b)(A:Option Addr)(c:Nat)(w:World)(hp:z9j w (.slice A p.parts.length c) p)(h0:z7g p=0):
  Calls prog 165 #[.agg #[.slice A p.parts.length c,.bool b]] w fun e w'=>e=.returned (.int .i64 ((z9c p+(if b then 1 else 0):Nat):Int))∧zB w w':=by
 have hA:zB w (w.alloc (.cells #[.slice A p.parts.length c,.bool b] 68)):=(Below.refl _ _).alloc (Nat.le_refl _) _;have h2:zb5 (w.alloc (.cells #[.slice A p.parts.length c,.bool b] 68)) w.heap.size (.slice A p.parts.length c) b:=z0l w [.slice A p.parts.length c,.bool b] 68;have HK:Hid (Calls prog 61 #[.agg #[.slice A p.parts.length c,.bool b]] (w.alloc (.cells #[.slice A p.parts.length c,.bool b] 68)) fun e w'=>e=.returned (.tuple #[.int .i64 (z9c p),.bool b])∧Below (w.alloc (.cells #[.slice A p.parts.length c,.bool b] 68)).heap.size (w.alloc (.cells #[.slice A p.parts.length c,.bool b] 68)) w'):=hd_ (by
  have:=zmv p A c _ (hp.below hA) h0;unfold zmu at this;rw[hbr] at this;exact this)
 have HA:=hd_ hA;have hs12:z9c p≤12:=Nat.le_trans (List.length_filter_le ..) (za7 h0);have x0:=h2.c0;have x1:=h2.c1;clear hp hbr h0 hA h2;go_enter func165,ntmps165;cases b
 all_goals
  go_wp2_with fail;refine HK.out.mono ?_;rintro e w2 ⟨rfl,hb⟩;dsimp only;have HB:=hd_ (z0r HA.out hb);clear hb x0 x1;go_wp2_with fail;go_ret;exact⟨by simp,HB.out⟩
structure RfSt (w2 wr:World)(parts caps:List ByteArray)(k:Nat)(done:List ByteArray)(av:Value):Prop where
 low:zB w2 wr
 own:wr.ownsRow w2.heap.size 9 1 av k (done.map .string)
 len:done.length=k
 is:done++zb7 (parts.drop k) (caps.drop (z9b parts k))=zb7 parts caps
theorem RfSt.plain {w2 wr wy:World}{parts caps:List ByteArray}{k:Nat}{done:List ByteArray}{av av':Value}(h:RfSt w2 wr parts caps k done av)(hk:k<parts.length)(hs:z7b parts[k]=false)(hl:zB w2 wy)(ho:wy.ownsRow w2.heap.size 9 1 av' (k+1) ((done++[parts[k]]).map .string)):
  RfSt w2 wy parts caps (k+1) (done++[parts[k]]) av':=by
 have e:z9b parts (k+1)=z9b parts k:=by rw[z9d hk,hs];rfl
 refine⟨hl,ho,by rw[List.length_append,h.len];rfl,?_⟩
 rw[e,← h.is,List.drop_eq_getElem_cons hk];conv=>rhs;unfold zb7
 rw[hs];simp
theorem RfSt.star {w2 wr wy:World}{parts caps:List ByteArray}{k:Nat}{done r:List ByteArray}{c:ByteArray}{av av':Value}(h:RfSt w2 wr parts caps k done av)(hk:k<parts.length)(hs:z7b parts[k]=true)(hr:caps.drop (z9b parts k)=c :: r)(hl:zB w2 wy)(ho:wy.ownsRow w2.heap.size 9 1 av' (k+1) ((done++[c++z82 parts[k]]).map .string)):
  RfSt w2 wy parts caps (k+1) (done++[c++z82 parts[k]]) av':=by
 have e:z9b parts (k+1)=z9b parts k+1:=by rw[z9d hk,hs];rfl
 have e2:caps.drop (z9b parts (k+1))=r:=by rw[e,← List.drop_drop,hr];rfl
 refine⟨hl,ho,by rw[List.length_append,h.len];rfl,?_⟩
 rw[e2,← h.is,List.drop_eq_getElem_cons hk,hr];conv=>rhs;unfold zb7
 rw[hs];simp
theorem znm {w W w':World}{row:Option Nat}(h:zB w W)(hg:W.grownBy w' row)(hr:∀ k,row=some k→w.heap.size≤k):zB w w':=
 ⟨hg.os.trans h.os,hg.tape.trans h.tape,hg.output.trans h.output,Nat.le_trans h.size hg.size,fun k hk=>(hg.block k (Nat.lt_of_lt_of_le hk h.size) (fun e=>by have:=hr k e.symm;omega)).trans (h.block k hk)⟩
theorem znn (xs ys zs:List (List UInt8))(h1:ys≠[])(h2:zs≠[])(h:Lib.join ys [47]=Lib.join zs [47]):Lib.join (xs++ys) [47]=Lib.join (xs++zs) [47]:=by
 induction xs with
 | nil=>exact h
 | cons x xs ih =>
  rw[List.cons_append,List.cons_append,z1m x (xs++ys) (by simp [h1]),z1m x (xs++zs) (by simp [h2]),ih]
theorem zno (xs:List (List UInt8))(l:List UInt8):Lib.join (xs++z1f l) [47]=Lib.join (xs++[l]) [47]:=
 znn xs _ _ (z1g l) (by simp) (by rw[z1n];simp [Lib.join])
