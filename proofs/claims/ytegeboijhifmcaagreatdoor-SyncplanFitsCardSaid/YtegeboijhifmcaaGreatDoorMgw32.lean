/- The reference's wildcards at any pattern; what its Fill holds on its way; joining a text's pieces. -/
import Derived.Test.YtegeboijhifmcaaGreatDoorMgw16
import Derived.Test.YtegeboijhifmcaaGreatDoorMgw6
import Derived.Test.YtegeboijhifmcaaGreatDoorMgw20
import Derived.Test.YtegeboijhifmcaaGreatDoorMgw18
import Derived.Test.YtegeboijhifmcaaGreatDoorMgw3
import Derived.Test.YtegeboijhifmcaaGreatDoorMgw9
import Derived.Test.YtegeboijhifmcaaGreatDoorMgw22
import Derived.Test.YtegeboijhifmcaaGreatDoorMgw30
namespace Go.Proofs.YtegeboijhifmcaaGreatDoor
set_option linter.unusedVariables false
set_option linter.unusedSimpArgs false
set_option maxHeartbeats 2000000
set_option maxRecDepth 100000
open Go.RowKit
theorem zo8 (p:Pat)(b:Bool)(hbr:p.rest=b)(A:Option Addr)(c:Nat)(w:World)(hp:za9 w (.slice A p.parts.length c) p)(h0:z7e p=0):
  Calls Tryz.prog 245 #[.agg #[.slice A p.parts.length c,.bool b]] w fun e w'=>e=.returned (.int .i64 ((za2 p+(if b then 1 else 0):Nat):Int))∧Below w.heap.size w w':=by
 have hA:Below w.heap.size w (w.alloc (.cells #[.slice A p.parts.length c,.bool b] 97)):=(Below.refl _ _).alloc (Nat.le_refl _) _;have h2:zbo (w.alloc (.cells #[.slice A p.parts.length c,.bool b] 97)) w.heap.size (.slice A p.parts.length c) b:=z0l w [.slice A p.parts.length c,.bool b] 97;have HK:Hid (Calls Tryz.prog 182 #[.agg #[.slice A p.parts.length c,.bool b]] (w.alloc (.cells #[.slice A p.parts.length c,.bool b] 97)) fun e w'=>e=.returned (.tuple #[.int .i64 (za2 p),.bool b])∧Below (w.alloc (.cells #[.slice A p.parts.length c,.bool b] 97)).heap.size (w.alloc (.cells #[.slice A p.parts.length c,.bool b] 97)) w'):=hd_ (by
  have:=zni p A c _ (hp.below hA) h0;unfold znh at this;rw[hbr] at this;exact this)
 have HA:=hd_ hA;have hs12:za2 p≤12:=Nat.le_trans (List.length_filter_le ..) (zao h0);have x0:=h2.c0;have x1:=h2.c1;clear hp hbr h0 hA h2;go_enter Tryz.func245,Tryz.ntmps245;cases b
 all_goals
  go_wp2_with fail;refine HK.out.mono ?_;rintro e w2 ⟨rfl,hb⟩;dsimp only;have HB:=hd_ (z0r HA.out hb);clear hb x0 x1;go_wp2_with fail;go_ret;exact⟨by simp,HB.out⟩
structure RfSt (w2 wr:World)(parts caps:List ByteArray)(k:Nat)(done:List ByteArray)(av:Value):Prop where
 low:Below w2.heap.size w2 wr
 own:wr.ownsRow w2.heap.size 9 1 av k (done.map .string)
 len:done.length=k
 is:done++zbs (parts.drop k) (caps.drop (za1 parts k))=zbs parts caps
theorem RfSt.plain {w2 wr wy:World}{parts caps:List ByteArray}{k:Nat}{done:List ByteArray}{av av':Value}(h:RfSt w2 wr parts caps k done av)(hk:k<parts.length)(hs:z79 parts[k]=false)(hl:Below w2.heap.size w2 wy)(ho:wy.ownsRow w2.heap.size 9 1 av' (k+1) ((done++[parts[k]]).map .string)):
  RfSt w2 wy parts caps (k+1) (done++[parts[k]]) av':=by
 have e:za1 parts (k+1)=za1 parts k:=by rw[za3 hk,hs];rfl
 refine⟨hl,ho,by rw[List.length_append,h.len];rfl,?_⟩
 rw[e,← h.is,List.drop_eq_getElem_cons hk];conv=>rhs;unfold zbs
 rw[hs];simp
theorem RfSt.star {w2 wr wy:World}{parts caps:List ByteArray}{k:Nat}{done r:List ByteArray}{c:ByteArray}{av av':Value}(h:RfSt w2 wr parts caps k done av)(hk:k<parts.length)(hs:z79 parts[k]=true)(hr:caps.drop (za1 parts k)=c :: r)(hl:Below w2.heap.size w2 wy)(ho:wy.ownsRow w2.heap.size 9 1 av' (k+1) ((done++[c++z80 parts[k]]).map .string)):
  RfSt w2 wy parts caps (k+1) (done++[c++z80 parts[k]]) av':=by
 have e:za1 parts (k+1)=za1 parts k+1:=by rw[za3 hk,hs];rfl
 have e2:caps.drop (za1 parts (k+1))=r:=by rw[e,← List.drop_drop,hr];rfl
 refine⟨hl,ho,by rw[List.length_append,h.len];rfl,?_⟩
 rw[e2,← h.is,List.drop_eq_getElem_cons hk,hr];conv=>rhs;unfold zbs
 rw[hs];simp
theorem zo9 {w W w':World}{row:Option Nat}(h:Below w.heap.size w W)(hg:W.grownBy w' row)(hr:∀ k,row=some k→w.heap.size≤k):Below w.heap.size w w':=
 ⟨hg.os.trans h.os,hg.tape.trans h.tape,hg.output.trans h.output,Nat.le_trans h.size hg.size,fun k hk=>(hg.block k (Nat.lt_of_lt_of_le hk h.size) (fun e=>by have:=hr k e.symm;omega)).trans (h.block k hk)⟩
theorem zoa (xs ys zs:List (List UInt8))(h1:ys≠[])(h2:zs≠[])(h:Lib.join ys [47]=Lib.join zs [47]):Lib.join (xs++ys) [47]=Lib.join (xs++zs) [47]:=by
 induction xs with
 | nil=>exact h
 | cons x xs ih =>
  rw[List.cons_append,List.cons_append,z1h x (xs++ys) (by simp [h1]),z1h x (xs++zs) (by simp [h2]),ih]
theorem zob (xs:List (List UInt8))(l:List UInt8):Lib.join (xs++z1a l) [47]=Lib.join (xs++[l]) [47]:=
 zoa xs _ _ (z1b l) (by simp) (by rw[z1i];simp [Lib.join])
def zop:Hav:=⟨z2l,0,z2l⟩
def HgPost (w:World)(o:Option Hav)(e:Ending)(w':World):Prop:=e=.returned (.tuple #[.agg #[.string (o.getD zop).path,.int .i64 (o.getD zop).num,.string (o.getD zop).loc],.bool o.isSome])∧Below w.heap.size w w'
theorem gk34_at {k:Hav→ByteArray}{l:List Hav}{p:ByteArray}{i:Nat}(hi:i<l.length)(h:∀ j (hj:j<l.length),j<i→k l[j]≠p)(e:k l[i]=p):z5y k l p=some l[i]:=by
 unfold z5y;rw[List.find?_eq_some_iff_getElem];exact⟨by simpa using e,i,hi,rfl,fun j hj=>by simpa using h j (by omega) hj⟩
theorem zoq {k:Hav→ByteArray}{l:List Hav}{p:ByteArray}(h:∀ j (hj:j<l.length),k l[j]≠p):z5y k l p=none:=z62.2 fun a ha=>by
 obtain⟨j,hj,rfl⟩:=List.getElem_of_mem ha;exact h j hj
theorem zor (l:List Hav)(v:Value)(s:ByteArray)(w:World)(hL:z4b w v l)(hl:l.length≤1000000):
  Calls Tryz.prog 61 #[v,.string s] w (HgPost w (z5y Hav.loc l s)):=by
 obtain⟨A,c,rfl,-⟩:=id hL;have hA:Below w.heap.size w (w.alloc (.cells #[.string ⟨#[]⟩,.int .i64 0,.string ⟨#[]⟩] 44)):=(Below.refl _ _).alloc (Nat.le_refl _) _;have HB:Hid (Blk _ _ 44 [.string ⟨#[]⟩,.int .i64 0,.string ⟨#[]⟩]):=hd_ (z0l w _ _);have HA:=hd_ hA;have HL:=hd_ hL;clear hL hA;go_enter Tryz.func61,Tryz.ntmps61;go_upto_region 1 with fail;generalize w.alloc (.cells #[.string ⟨#[]⟩,.int .i64 0,.string ⟨#[]⟩] 44)=W1 at HA HB ⊢;go_wp2_with fail;go_loop [6] (fun i=>∃ k:Nat,i=.int .i64 k∧k≤l.length∧Hid (∀ j (hj:j<l.length),j<k→l[j].loc≠s)) (fun i=>l.length - (intOf i).toNat)
 case atStart=>exact⟨0,rfl,Nat.zero_le _,hd_ (fun j _ h=>by omega)⟩
 case round =>
  obtain⟨k,rfl,hk,HI⟩:=hrel;obtain⟨f0,f1,f2⟩:=(⟨HB.out.frozen 0,HB.out.frozen 1,HB.out.frozen 2⟩:W1.frozen? ⟨w.heap.size,0,none⟩=false∧W1.frozen? ⟨w.heap.size,1,none⟩=false∧W1.frozen? ⟨w.heap.size,2,none⟩=false);obtain⟨z0,z1,z2⟩:=(⟨HB.out.cell 0,HB.out.cell 1,HB.out.cell 2⟩:W1.cell? ⟨w.heap.size,0,none⟩=some (.string ⟨#[]⟩)∧W1.cell? ⟨w.heap.size,1,none⟩=some (.int .i64 0)∧W1.cell? ⟨w.heap.size,2,none⟩=some (.string ⟨#[]⟩));by_cases hlt:k<l.length
  ·obtain⟨ad,rfl,hab,s0,s1,s2⟩:=z4b.at_ (Row.below HL.out HA.out) hlt;have HNX:Hid (l[k].loc≠s→∀ j (hj:j<l.length),j<k+1→l[j].loc≠s):=hd_ fun h j hj hjk=>by
    by_cases e:j=k
    ·subst e;exact h
    ·exact HI.out j hj (by omega)
   have HYE:=hd_ (gk34_at (k:=Hav.loc) (p:=s) hlt HI.out);generalize l[k]=x at s0 s1 s2 HNX HYE;have HLT:=hd_ hlt;by_cases h1:x.loc=s
   ·have q1:(x.loc.toList == s.toList)=true:=by rw[z3x,decide_eq_true h1]
    have HR:=hd_ (HYE.out h1);clear h1;go_wp2_with fail;have hE:=((HB.out.set_ 0 (.string x.path)).set_ 1 (.int .i64 x.num)).set_ 2 (.string x.loc);have hb:=((HA.out.setCell (p:=⟨w.heap.size,0,none⟩) (by simp) (.string x.path)).setCell (p:=⟨w.heap.size,1,none⟩) (by simp) (.int .i64 x.num)).setCell (p:=⟨w.heap.size,2,none⟩) (by simp) (.string x.loc)
    generalize ((W1.setCell ⟨w.heap.size,0,none⟩ (.string x.path)).setCell ⟨w.heap.size,1,none⟩ (.int .i64 x.num)).setCell ⟨w.heap.size,2,none⟩ (.string x.loc)=W8 at hE hb ⊢;have e0:=hE.cell 0;have e1:=hE.cell 1;have e2:=hE.cell 2;exact bodyPost_ret (v:=.tuple #[.agg #[.string x.path,.int .i64 x.num,.string x.loc],.bool true]) (by simp [results,Tryz.results61,go_sem,e0,e1,e2]) rfl ⟨by rw[HR.out];rfl,hb⟩
   ·have q1:(x.loc.toList == s.toList)=false:=by rw[z3x,decide_eq_false h1]
    have HN:=hd_ (HNX.out h1);clear h1;go_wp2_with fail;go_round
    case rel=>exact⟨k+1,by go_num,by have:=HLT.out;omega,HN⟩
    case measure=>have:=HLT.out;simp [intOf];omega
  ·have hke:k=l.length:=by omega
   subst hke;have HR:=hd_ (zoq (k:=Hav.loc) (p:=s) (fun j hj=>HI.out j hj hj));go_wp2_with fail;have hE:=((HB.out.set_ 0 (.string ⟨#[]⟩)).set_ 1 (.int .i64 0)).set_ 2 (.string ⟨#[]⟩);have hb:=((HA.out.setCell (p:=⟨w.heap.size,0,none⟩) (by simp) (.string ⟨#[]⟩)).setCell (p:=⟨w.heap.size,1,none⟩) (by simp) (.int .i64 0)).setCell (p:=⟨w.heap.size,2,none⟩) (by simp) (.string ⟨#[]⟩)
   generalize ((W1.setCell ⟨w.heap.size,0,none⟩ (.string ⟨#[]⟩)).setCell ⟨w.heap.size,1,none⟩ (.int .i64 0)).setCell ⟨w.heap.size,2,none⟩ (.string ⟨#[]⟩)=W8 at hE hb ⊢;have e0:=hE.cell 0;have e1:=hE.cell 1;have e2:=hE.cell 2;exact bodyPost_ret (v:=.tuple #[.agg #[.string ⟨#[]⟩,.int .i64 0,.string ⟨#[]⟩],.bool false]) (by simp [results,Tryz.results61,go_sem,e0,e1,e2]) rfl ⟨by rw[HR.out];rfl,hb⟩
theorem WsB.mono {w wr:World}{U g gw m m':Nat}{D:List Rev}{dv dr cv:Value}{l:List Cnk}(h:WsB w wr U g gw m D dv dr cv l)(hm:m≤m'):WsB w wr U g gw m' D dv dr cv l:=
 ⟨h.kept,h.tape.mono hm,h.box,h.cnk,h.revs,h.gU,h.UU,h.le,h.far⟩
structure EdK (D:List Rev)(i:Nat)(es:List Edt):Prop where
 six:∀ x∈es,∃(j:Nat) (hj:j<zff.length),j<i∧zff[j]=x.path
 nd:(es.map (·.path)).Nodup
 base:∀ x∈es,x.base=(zec (zgs D x.path)).num
 len:es.length≤i
theorem zpe:zff.Nodup:=by decide
theorem edK_0 (D:List Rev):EdK D 0 []:=⟨(fun x h=>by cases h),List.nodup_nil,(fun x h=>by cases h),Nat.le_refl _⟩
theorem EdK.skip {D:List Rev}{i:Nat}{es:List Edt}(h:EdK D i es):EdK D (i+1) es:=
 ⟨fun x hx=>by obtain⟨j,hj,h1,h2⟩:=h.six x hx;exact⟨j,hj,by omega,h2⟩,h.nd,h.base,Nat.le_succ_of_le h.len⟩
theorem EdK.push {D:List Rev}{i:Nat}{es:List Edt}{x:Edt}(h:EdK D i es)(hi:i<zff.length)(hx:x.path=zff[i])(hb:x.base=(zec (zgs D x.path)).num):EdK D (i+1) (es++[x]):=by
 refine⟨fun y hy=>?_,?_,fun y hy=>?_,by rw[List.length_append];exact Nat.succ_le_succ h.len⟩
 ·rcases List.mem_append.1 hy with hy | hy
  ·obtain⟨j,hj,h1,h2⟩:=h.six y hy;exact⟨j,hj,by omega,h2⟩
  ·rw[List.mem_singleton] at hy;subst hy;exact⟨i,hi,by omega,hx.symm⟩
 ·rw[List.map_append,List.nodup_append];refine⟨h.nd,by simp,fun a ha b hb e=>?_⟩
  obtain⟨y,hy,rfl⟩:=List.mem_map.1 ha;have hb':b=x.path:=by simpa using hb
  obtain⟨j,hj,h1,h2⟩:=h.six y hy;have e2:zff[j]=zff[i]:=by rw[h2,e,hb',hx]
  have:=(List.getElem_inj zpe).1 e2;omega
 ·rcases List.mem_append.1 hy with hy | hy
  ·exact h.base y hy
  ·rw[List.mem_singleton] at hy;subst hy;exact hb
structure zpf (w wr wx:World)(U g gw m:Nat)(D:List Rev)(dv dr cv0 cv:Value)(l:List Cnk)(g6 g7 gp B:Nat)(num:Int)(es:List Edt)(ev:Value):Prop where
 ws:WsB w wx U g gw m D dv dr cv l
 frm:Frm wr wx g gw cv0 cv
 b6:Blk wx g6 95 [.int .i64 0,.string ⟨#[]⟩,.string ⟨#[]⟩,.slice none 0 0,.slice none 0 0]
 b7:Blk wx g7 95 [.int .i64 num,.string ⟨#[]⟩,.string ⟨#[]⟩,ev,.slice none 0 0]
 bp:Blk wx gp 9 (zff.map .string)
 own:wx.ownsRow B 90 12 ev es.length (es.flatMap Edt.cells)
 ord:wr.heap.size≤g6∧g6<g7∧g7<gp∧gp<B∧B≤wx.heap.size
 lo:w.heap.size≤wr.heap.size∧gw<wr.heap.size∧∀ x,dv.ownBlock=some x→x<wr.heap.size
theorem zpg {w w':World}{B k n:Nat}{e:TypeId}{v:Value}{xs:List Value}(h:w.ownsRow B e k v n xs)(hk:∀ x,v.ownBlock=some x→w'.heap[x]? = w.heap[x]?):w'.ownsRow B e k v n xs:=by
 refine⟨h.1,?_⟩;rcases h.2 with e1 | ⟨g,cap,cur,e1,h1,h2,h3⟩
 ·exact .inl e1
 ·exact .inr ⟨g,cap,cur,e1,h1,(hk g (by rw[e1];rfl)).trans h2,h3⟩
theorem WsB.grownAt {w wr w':World}{U g gw m:Nat}{D:List Rev}{dv dr cv:Value}{l:List Cnk}{row:Option Nat}(h:WsB w wr U g gw m D dv dr cv l)(hg:wr.grownBy w' row)(hr:∀ k,row=some k→w.heap.size≤k∧k≠gw∧cv.ownBlock≠some k∧dv.ownBlock≠some k):WsB w w' U g gw m D dv dr cv l:=by
 have hK:z6t [g] w w':=h.kept.grown_own hg (fun k e=>(hr k e).1);have h1:=h.UU;refine⟨hK,h.tape.keep hg.size (fun x hx=>hg.block x (by have:=h.kept.size;omega) (fun e=>by have:=(hr x e.symm).1;omega)),h.box.grown hg (fun e=>(hr gw e.symm).2.1 rfl),zpg h.cnk (fun x hx=>hg.block x (h.cnk.lt x hx).2 (fun e=>(hr x e.symm).2.2.1 hx)),Row.heap h.revs hg.size (fun x hx e=>hg.block x hx (fun e2=>(hr x e2.symm).2.2.2 e)),h.gU,h1,h.le,fun x hx=>⟨(h.far x hx).1,Nat.lt_of_lt_of_le (h.far x hx).2.1 hg.size,(h.far x hx).2.2⟩⟩
theorem Frm.grownAt {wr wx w':World}{g gw:Nat}{cv cv':Value}{row:Option Nat}(h:Frm wr wx g gw cv cv')(hg:wx.grownBy w' row)(hr:∀ k,row=some k→wr.heap.size≤k):Frm wr w' g gw cv cv':=
 ⟨hg.os.trans h.os,hg.tape.trans h.tape,hg.output.trans h.output,Nat.le_trans h.size hg.size,fun k hk h1 h2 h3=>(hg.block k (Nat.lt_of_lt_of_le hk h.size) (fun e=>by have:=hr k e.symm;omega)).trans (h.block k hk h1 h2 h3),h.ob⟩
theorem zph {w:World}{B1 B2 k1 k2 n1 n2 x:Nat}{e1 e2:TypeId}{v1 v2:Value}{xs ys:List Value}(h1:w.ownsRow B1 e1 k1 v1 n1 xs)(h2:w.ownsRow B2 e2 k2 v2 n2 ys)(he:e1≠e2)(hx:v1.ownBlock=some x):v2.ownBlock≠some x:=by
 intro hy;rcases h1.2 with⟨rfl,_⟩ | ⟨g,cap,cur,rfl,_,hg,_⟩
 ·cases hx
 ·rcases h2.2 with⟨rfl,_⟩ | ⟨g',cap',cur',rfl,_,hg',_⟩
  ·cases hy
  ·injection hx with hx
   injection hy with hy
   have e:g=g':=hx.trans hy.symm;subst e;rw[hg] at hg';injection hg' with hg'
   injection hg' with _ h2 _
   exact he h2
section
variable {w wr wx w' : World} {U g gw m m' g6 g7 gp B : Nat} {D : List Rev} {dv dr cv0 cv cv' ev : Value} {l l' : List Cnk} {num : Int} {es : List Edt}
theorem zpf.step (h:zpf w wr wx U g gw m D dv dr cv0 cv l g6 g7 gp B num es ev)(hF:Frm wx w' g gw cv cv')(hS:WsB w w' U g gw m' D dv dr cv' l'):zpf w wr w' U g gw m' D dv dr cv0 cv' l' g6 g7 gp B num es ev:=by
 obtain⟨o1,o2,o3,o4,o5⟩:=h.ord;have h1:=h.ws.gU;have h2:=h.ws.UU;have h3:=h.ws.le;have h4:=h.ws.kept.size;have h5:=h.frm.size;have h6:=h.lo;refine⟨hS,h.frm.trans hF,hF.blk h.b6 (by omega) (by omega) (zky h.ws.cnk h.b6 (by decide)),hF.blk h.b7 (by omega) (by omega) (zky h.ws.cnk h.b7 (by decide)),hF.blk h.bp (by omega) (by omega) (zky h.ws.cnk h.bp (by decide)),?_,⟨o1,o2,o3,o4,Nat.le_trans o5 hF.size⟩,h.lo⟩
 refine zpg h.own fun x hx=>?_;have hlt:=h.own.lt x hx;exact hF.block x hlt.2 (by omega) (by omega) (zph h.own h.ws.cnk (by decide) hx)
theorem zpf.next (h:zpf w wr wx U g gw m D dv dr cv0 cv l g6 g7 gp B num es ev)(hK:z6t [g] wx w')(hT:zgf w' U g m'):zpf w wr w' U g gw m' D dv dr cv0 cv l g6 g7 gp B num es ev:=h.step (Frm.of_kept hK) (h.ws.next hK hT)
theorem zpf.under (h:zpf w wr wx U g gw m D dv dr cv0 cv l g6 g7 gp B num es ev)(hb:Below wx.heap.size wx w'):zpf w wr w' U g gw m D dv dr cv0 cv l g6 g7 gp B num es ev:=h.next (z6t.below hb) (h.ws.tape.below hb)
theorem zpf.grownAt {row:Option Nat}(h:zpf w wr wx U g gw m D dv dr cv0 cv l g6 g7 gp B num es ev)(hg:wx.grownBy w' row)(hr:∀ k,row=some k→B≤k∧cv.ownBlock≠some k∧ev.ownBlock≠some k):zpf w wr w' U g gw m D dv dr cv0 cv l g6 g7 gp B num es ev:=by
 obtain⟨o1,o2,o3,o4,o5⟩:=h.ord;obtain⟨l1,l2,l3⟩:=h.lo;have hn:∀ k,k<B→some k≠row:=fun k hk e=>by have:=(hr k e.symm).1;omega
 exact⟨h.ws.grownAt hg (fun k e=>⟨by have:=(hr k e).1;omega,by have:=(hr k e).1;omega,(hr k e).2.1,fun e2=>by have:=l3 k e2;have:=(hr k e).1;omega⟩),h.frm.grownAt hg (fun k e=>by have:=(hr k e).1;omega),h.b6.grown hg (hn g6 (by omega)),h.b7.grown hg (hn g7 (by omega)),h.bp.grown hg (hn gp (by omega)),zpg h.own (fun x hx=>hg.block x (h.own.lt x hx).2 (fun e=>(hr x e.symm).2.2 hx)),⟨o1,o2,o3,o4,Nat.le_trans o5 hg.size⟩,h.lo⟩
theorem zpf.push {w5:World}{ev':Value}{es':List Edt}(h:zpf w wr wx U g gw m D dv dr cv0 cv l g6 g7 gp B num es ev)(hg:wx.grownBy w5 ev.ownBlock)(ho:w5.ownsRow B 90 12 ev' es'.length (es'.flatMap Edt.cells)):
  (w5.cell? ⟨g7,3,none⟩=some ev∧w5.frozen? ⟨g7,3,none⟩=false)∧zpf w wr (w5.setCell ⟨g7,3,none⟩ ev') U g gw m D dv dr cv0 cv l g6 g7 gp B num es' ev':=by
 obtain⟨o1,o2,o3,o4,o5⟩:=h.ord;obtain⟨l1,l2,l3⟩:=h.lo;have hlt:=h.own.lt;have hn:∀ k,k<B→some k≠ev.ownBlock:=fun k hk e=>by have:=(hlt k e.symm).1;omega
 have hws:=h.ws.grownAt hg (fun k e=>⟨by have:=(hlt k e).1;omega,by have:=(hlt k e).1;omega,zph h.own h.ws.cnk (by decide) e,fun e2=>by have:=l3 k e2;have:=(hlt k e).1;omega⟩)
 have hfr:=h.frm.grownAt hg (fun k e=>by have:=(hlt k e).1;omega)
 have hb7:=h.b7.grown hg (hn g7 (by omega))
 have hg2:=z6u w5 g7 3 ev';have hcn:cv.ownBlock≠some g7:=zky hws.cnk hb7 (by decide)
 refine⟨⟨hb7.cell 3,hb7.frozen 3⟩,hws.grownAt hg2 (fun k e=>by injection e with e;subst e;exact⟨by omega,by omega,hcn,fun e2=>by have:=l3 g7 e2;omega⟩),hfr.grownAt hg2 (fun k e=>by injection e with e;omega),Blk.far (h.b6.grown hg (hn g6 (by omega))) (by show g7≠g6;omega) _,hb7.set_ 3 ev',Blk.far (h.bp.grown hg (hn gp (by omega))) (by show g7≠gp;omega) _,z4r ho (p:=⟨g7,3,none⟩) (fun e=>by have:=(ho.lt g7 e).1;omega) _,⟨o1,o2,o3,o4,Nat.le_trans o5 (Nat.le_trans hg.size hg2.size)⟩,h.lo⟩
end
end Go.Proofs.YtegeboijhifmcaaGreatDoor
