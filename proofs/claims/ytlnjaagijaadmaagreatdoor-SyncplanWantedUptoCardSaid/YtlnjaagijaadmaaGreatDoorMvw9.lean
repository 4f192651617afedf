/- A part. -/
import Derived.Test.YtlnjaagijaadmaaGreatDoorMvw7
import Derived.Test.YtlnjaagijaadmaaGreatDoorMvw8
set_option linter.unusedVariables false
set_option linter.unusedSimpArgs false
set_option maxHeartbeats 4000000
set_option maxRecDepth 100000
namespace Go.Proofs.YtlnjaagijaadmaaGreatDoor
open Go.Proofs.Tryz
open Go.RowKit
def zbp (l:List zA)(k:Nat):Nat:=((l.take k).filter z8r).length
def zbq (p:Pat):Nat:=(p.kp.filter z8r).length
theorem zbr {l:List zA}{k:Nat}(h:k<l.length):zbp l (k+1)=zbp l k+if z8r l[k] then 1 else 0:=by
 unfold zbp;rw[Zr h,List.filter_append,Zc];congr 1
 cases h:z8r l[k]
 ·rw[List.filter_cons_of_neg (by rw[h];decide)];rfl
 ·rw[List.filter_cons_of_pos h];rfl
theorem zbs {p:Pat}:zbp p.kp p.kp.length=zbq p:=by unfold zbp zbq;rw[ZH]
theorem zbt {l:List zA}:∀ k,zbp l k<=k:=fun k=>Zf (ZS ..) (List.length_take_le ..)
def zbu (w:zW)(p:Pat)(e:Ending)(w':zW):Prop:=∃ n:Int,∃ b:Bool,e=.returned (.tuple #[zI n,.bool b,zI (z8w p)])/\(z8w p=0->n=zbq p/\b=p.kr)/\zB w w'
theorem zbv (p:Pat)(A:zP)(c:Nat)(w:zW)(hS:z20 w (zL A p.kp.length c) p.kp)(hz:∀ x∈p.kp,x.size<=maxLen):
  Calls prog 142 #[.agg #[zL A p.kp.length c,.bool p.kr]] w (zbu w p):=by
 obtain⟨A',c',e',hcc,hmm,-⟩:=id hS;injection e' with e1 e2 e3
 subst e1 e3;unfold maxLen at hmm;have HS:=hd_ hS;have hB:=z0l w [zL A p.kp.length c,.bool p.kr] 56;have hA:zB w (w.alloc (zC #[zL A p.kp.length c,.bool p.kr] 56)):=zR;have HCK:=hd_ (fun X (hX:zB w X)=>z99 p A c X (hS.kw hX) hz);clear hS hz e2;go_enter func142,ntmps142;go_upto_region 1 with fail;generalize w.alloc (zC #[zL A p.kp.length c,.bool p.kr] 56)=W1 at hB hA |-;have d0:W1.cell? ⟨w.heap.size,0,none⟩=some (.slice A p.kp.length c):=hB.cell 0;have d1:W1.cell? ⟨w.heap.size,1,none⟩=some (.bool p.kr):=hB.cell 1;have HC:=hd_ (HCK W1 hA);have HB:=hd_ hB;have HA:=hd_ hA;clear hB hA HCK;obtain⟨pe,hpe⟩:∃ pe,z8w p=pe:=⟨_,rfl⟩;have HPE:=hd_ hpe;rw[hpe] at HC;clear hpe;by_cases h0:pe=0
 case neg =>
  have q:(pe != 0)=true:=by simpa using h0
  have HR:Hid (z8w p≠0):=hd_ (by rw[HPE.out];exact h0)
  clear h0;go_wp2_with fail;refine HC.mono ?_;rintro e w2 ⟨rfl,hb⟩;have HB2:=hd_ (z0r HA hb);clear hb d0 d1;go_wp2_with fail;go_ret3
  exact⟨0,false,by rw[HPE.out];rfl,fun h=>absurd h HR.out,HB2.out⟩
 subst h0;go_wp2_with fail;refine HC.mono ?_;rintro e w2 ⟨rfl,hb⟩;have HB2:=hd_ (z0r HA hb);have hB2:=HB.out.kw hb HB.out.lt;clear hb d0 d1;have d0:w2.cell? ⟨w.heap.size,0,none⟩=some (.slice A p.kp.length c):=hB2.cell 0;have d1:w2.cell? ⟨w.heap.size,1,none⟩=some (.bool p.kr):=hB2.cell 1;clear hB2 HC;go_wp2_with fail;go_loop [2,16] (fun s i=>∃ k:Nat,k<=p.kp.length/\i=zI k/\s=zI (zbp p.kp k)) (fun _ i=>p.kp.length - (intOf i).toNat)
 exact⟨0,Zg _,rfl,rfl⟩
 obtain⟨k,hk,rfl,rfl⟩:=hrel;have hsl:=zbt (l:=p.kp) k;by_cases hlt:k<p.kp.length
 ·obtain⟨ad,rfl,hab,x0⟩:=z20.at_ (HS.out.kw HB2.out) hlt;have HT:=hd_ (fun X=>z92 p.kp[k] X);have HN:=hd_ (zbr hlt);generalize p.kp[k]=part at x0 HT HN;generalize z8r part=st at HT HN;generalize zbp p.kp k=m at HN hsl;clear hab;cases st with
  | false =>
   go_wp2_with (first
    | (go_at_call 110;refine (HT _).mono ?_;rintro e w' ⟨rfl,rfl⟩))
   go_round
   exact⟨k+1,by omega,by go_num,by rw[HN.out];rfl⟩
   simp [intOf];omega
  | true =>
   go_wp2_with (first
    | (go_at_call 110;refine (HT _).mono ?_;rintro e w' ⟨rfl,rfl⟩))
   go_round
   exact⟨k+1,by omega,by go_num,by rw[HN.out];go_num⟩
   simp [intOf];omega
 ·have hke:k=p.kp.length:=by omega
  subst hke;rw[zbs];go_wp2_with fail;go_region_law (fail)
  go_wp2_with fail;go_ret3
  exact⟨_,_,by rw[HPE.out];rfl,fun _=>⟨rfl,rfl⟩,HB2.drew⟩
def zbw (l r:Pat):Int:=if z8w l≠0 then 40 else if z8w r≠0 then 41 else if zbq l≠zbq r\/l.kr≠r.kr then 42 else 0
def zbx (w:zW)(v:zV)(p:Pat):Prop:=z20 w v p.kp/\∀ x∈p.kp,x.size<=30000000
theorem zbx.kw {w w':zW}{v:zV}{p:Pat}(h:zbx w v p)(hb:zB w w'):zbx w' v p:=⟨z20.kw h.1 hb,h.2⟩
theorem zbx.small {w:zW}{v:zV}{p:Pat}(h:zbx w v p):∀ x∈p.kp,x.size<=maxLen:=fun x hx=>by have:=h.2 x hx;unfold maxLen;omega
theorem zby (ex:Bool)(l r:Pat)(A B:zP)(a b:Nat)(w:zW)(hL:zbx w (zL A l.kp.length a) l)(hR:zbx w (zL B r.kp.length b) r):
  Calls prog 93 #[.agg #[.bool ex,zL A l.kp.length a,.bool l.kr,zL B r.kp.length b,.bool r.kr]] w fun e w'=>e=.returned (zI (zbw l r))/\zB w w':=by
 have hB:=z0l w [.bool ex,zL A l.kp.length a,.bool l.kr,zL B r.kp.length b,.bool r.kr] 62;have hA:zB w (w.alloc (zC #[.bool ex,zL A l.kp.length a,.bool l.kr,zL B r.kp.length b,.bool r.kr] 62)):=zR;have HKL:=hd_ (fun X (hX:zB w X)=>zbv l A a X (hL.kw hX).1 hL.small);have HKR:=hd_ (fun X (hX:zB w X)=>zbv r B b X (hR.kw hX).1 hR.small);have HE:Hid (zbw l r=if z8w l≠0 then 40 else if z8w r≠0 then 41 else if zbq l≠zbq r\/l.kr≠r.kr then 42 else 0):=hd_ rfl;clear hL hR;go_enter func93,ntmps93;go_upto_region 1 with fail;generalize w.alloc (zC #[.bool ex,zL A l.kp.length a,.bool l.kr,zL B r.kp.length b,.bool r.kr] 62)=W1 at hB hA |-;have d1:W1.cell? ⟨w.heap.size,1,none⟩=some (.slice A l.kp.length a):=hB.cell 1;have d2:W1.cell? ⟨w.heap.size,2,none⟩=some (.bool l.kr):=hB.cell 2;have HC:=hd_ (HKL W1 hA);have HB:=hd_ hB;have HA:=hd_ hA;clear hB hA HKL;go_wp2_with fail;refine HC.mono ?_;rintro e w2 ⟨n1,b1,rfl,hk1,hb⟩;have HB2:=hd_ (z0r HA hb);have hB2:=HB.out.kw hb HB.out.lt;clear hb d1 d2 HC HB;obtain⟨pe,hpe⟩:∃ pe,z8w l=pe:=⟨_,rfl⟩;rw[hpe] at hk1 HE |-;clear hpe;by_cases h0:pe=0
 case neg =>
  have q:(pe != 0)=true:=by simpa using h0
  have HR:Hid (zbw l r=40):=hd_ (by rw[HE.out,if_pos h0])
  clear h0 hB2 HE hk1;go_wp2_with fail;go_ret;exact⟨z91 HR.symm,HB2⟩
 subst h0;obtain⟨rfl,rfl⟩:=hk1 rfl;have d3:w2.cell? ⟨w.heap.size,3,none⟩=some (.slice B r.kp.length b):=hB2.cell 3;have d4:w2.cell? ⟨w.heap.size,4,none⟩=some (.bool r.kr):=hB2.cell 4;have HC:=hd_ (HKR w2 HB2);clear hB2 HKR hk1;go_wp2_with fail;refine HC.mono ?_;rintro e w3 ⟨n2,b2,rfl,hk2,hb⟩;have HB3:=hd_ (z0r HB2 hb);clear hb d3 d4 HC;obtain⟨pe,hpe⟩:∃ pe,z8w r=pe:=⟨_,rfl⟩;rw[hpe] at hk2 HE |-;clear hpe;by_cases h0:pe=0
 case neg =>
  have q:(pe != 0)=true:=by simpa using h0
  have HR:Hid (zbw l r=41):=hd_ (by rw[HE.out,if_neg (by decide),if_pos h0])
  clear h0 HE hk2;go_wp2_with fail;go_ret;exact⟨z91 HR.symm,HB3⟩
 subst h0;obtain⟨rfl,rfl⟩:=hk2 rfl;rw[if_neg (by decide),if_neg (by decide)] at HE
 clear hk2;by_cases h1:zbq l=zbq r
 ·have q1:((zbq l:Int) != (zbq r:Int))=false:=by rw[h1];simp
  rcases Bool.eq_false_or_eq_true l.kr with h2 | h2 <;> rcases Bool.eq_false_or_eq_true r.kr with h3 | h3 <;> (
   have HR:Hid (zbw l r=0/\l.kr=r.kr\/zbw l r=42/\l.kr≠r.kr):=hd_ (by
    by_cases h:l.kr=r.kr
    ·exact .inl ⟨by rw[HE.out,if_neg (by rintro (h4 | h4);exact h4 h1;exact h4 h)],h⟩
    ·exact .inr ⟨by rw[HE.out,if_pos (.inr h)],h⟩)
   rw[h2,h3] at HR |-;clear h1 h2 h3 HE;go_wp2_with fail;go_ret;rcases HR.out with⟨h4,h5⟩ | ⟨h4,h5⟩
   ·first
     | exact⟨z91 h4.symm,HB3⟩
     | cases h5
   ·first
     | exact⟨z91 h4.symm,HB3⟩
     | exact absurd rfl h5)
 ·have q1:((zbq l:Int) != (zbq r:Int))=true:=by simp;omega
  have HR:Hid (zbw l r=42):=hd_ (by rw[HE.out,if_pos (.inl h1)])
  clear h1 HE;go_wp2_with fail;go_ret;exact⟨z91 HR.symm,HB3⟩
theorem zbz {w:zW}{base:Nat}{e:TypeId}{size n c g j:Nat}{xs:List zV}(h:w.ownsRow base e size (zL (some ⟨g,0,none⟩) n c) n xs)(u:zV):(w.setCell ⟨g,j,none⟩ u).ownsRow base e size (zL (some ⟨g,0,none⟩) n c) n (xs.set j u):=by
 obtain⟨h1,h2 | ⟨g',cap,cur,e1,h3,h4,h5,h6,h7,h8⟩⟩:=h
 ·cases h2.1
 ·injection e1 with e1 _ e3
  injection e1 with e1
  injection e1 with e1
  subst e1 e3;refine⟨by rw[List.length_set];exact h1,.inr ⟨g,c,cur.setIfInBounds j u,rfl,h3,?_,h5,h6,by simp [h7],?_⟩⟩
  ·simp [World.setCell,Array.getElem?_modify,h4]
  ·rw[Array.toList_setIfInBounds,List.take_set,h8]
theorem zc0 {w:zW}{base:Nat}{e:TypeId}{size n c g j:Nat}{xs:List zV}{u:zV}(h:w.ownsRow base e size (zL (some ⟨g,0,none⟩) n c) n xs)(hj:xs[j]? = some u):w.cell? ⟨g,j,none⟩=some u/\w.frozen? ⟨g,j,none⟩=false/\base<=g:=by
 obtain⟨h1,h2 | ⟨g',cap,cur,e1,h3,h4,h5,h6,h7,h8⟩⟩:=h
 ·cases h2.1
 ·injection e1 with e1 _ e3
  injection e1 with e1
  injection e1 with e1
  subst e1 e3;refine⟨?_,by simp [World.frozen?,h4],h3⟩
  rw[cell_of_row w g j cur e (0,0) h4,<- hj,<- h8];have hlt:j<n * size:=by rw[<- h1];exact (ZR.1 hj).1
  rw[List.getElem?_take_of_lt hlt,Array.getElem?_toList]
def zc1 (n:Nat)(r:Bool)(m:Nat)(s:Bool):Bool:=if r && s then true else if r then decide (n<m) else if s then decide (m<n) else decide (n=m)
theorem zc2 (n m:Nat)(r s:Bool)(w:zW):Calls prog 144 #[zI n,.bool r,zI m,.bool s] w fun e w'=>e=.returned (.bool (zc1 n r m s))/\w=w':=by
 have q1:decide ((n:Int)<(m:Int))=decide (n<m):=by rw[decide_eq_decide];omega
 have q2:decide ((m:Int)<(n:Int))=decide (m<n):=by rw[decide_eq_decide];omega
 have q3:((n:Int) == (m:Int))=decide (n=m):=by rw[ZY,beq_iff_eq,decide_eq_true_eq];omega
 unfold zc1;cases r <;> cases s <;> (
  go_enter func144,ntmps144;go_wp2_with fail;go_ret;first
   | exact⟨rfl,rfl⟩
   | exact⟨by simp,rfl⟩
   | exact⟨by simp [q1],rfl⟩
   | exact⟨by simp [q2],rfl⟩
   | exact⟨by simp [q3],rfl⟩)
def zc3:List zA->List zA->Option (List zA)
 | xs,[]=>some xs
 | [],_ :: _=>none
 | x :: xs,y :: ys=>match zbm x y with
  | none=>none
  | some z=>(zc3 xs ys).map (z :: ·)
def zc4 (p q:Pat):Pat:=if p.kp.length<q.kp.length then q else p
def zc5 (p q:Pat):Pat:=if p.kp.length<q.kp.length then p else q
def zc6 (p q:Pat):Option Pat:=
 if z8w p=0/\z8w q=0/\zc1 p.kp.length p.kr q.kp.length q.kr=true then (zc3 (zc4 p q).kp (zc5 p q).kp).map (fun l=>⟨l,p.kr && q.kr⟩) else none
def zc7 (xs ys:List zA)(k:Nat)(done:List zA):Prop:=done.length=k/\zc3 xs ys=(zc3 (xs.drop k) (ys.drop k)).map (done++·)
theorem zc8 (xs ys:List zA):zc7 xs ys 0 []:=⟨rfl,by simp⟩
theorem zc9 {xs ys:List zA}{k:Nat}{done:List zA}(h:zc7 xs ys k done)(hx:k<xs.length)(hy:k<ys.length)(e:zbm xs[k] ys[k]=none):zc3 xs ys=none:=by
 rw[h.2,Zo hx,Zo hy];unfold zc3;rw[e];rfl
theorem zca {xs ys:List zA}{k:Nat}{done:List zA}{z:zA}(h:zc7 xs ys k done)(hx:k<xs.length)(hy:k<ys.length)(e:zbm xs[k] ys[k]=some z):zc7 xs ys (k+1) (done++[z]):=by
 refine⟨by rw[Zc,h.1];rfl,?_⟩
 rw[h.2,Zo hx,Zo hy];conv=>lhs;unfold zc3
 rw[e];simp only[Option.map_map]
 congr 1
 funext l
 simp
theorem zcb {xs ys:List zA}{done:List zA}(h:zc7 xs ys ys.length done):zc3 xs ys=some (done++xs.drop ys.length):=by
 rw[h.2,Yd];cases h2:xs.drop ys.length <;> rfl
theorem zcc {p:Pat}(h:z8w p=0):p.kp.length<=12:=by
 unfold z8w at h;split at h
 ·cases h
 ·split at h
  ·cases h
  ·split at h
   ·cases h
   ·omega
theorem zcd (l:List zA)(v:zV)(w:zW)(hb:z20 w v l)(hl:l.length<=1000000):
  Calls prog 145 #[v] w fun e w'=>∃ v',e=.returned v'/\w'.ownsRow w.heap.size 9 1 v' l.length (l.map .string)/\zB w w':=by
 obtain⟨A,c,rfl,hc,hm,hlen,h0,hx⟩:=id hb;cases A with
 | none =>
  have hc0:=h0 rfl;have hn0:l=[]:=Zt (by omega)
  subst hn0 hc0;have heq:∀ W,(binOp .eql 29 (zL none 0 0) (zL none 0 0)).run prog W=.ok (.bool true) W:=fun W=>by kernel_rfl
  clear hx hlen h0 hb;go_enter func145,ntmps145;go_wp2_with fail;go_ret;exact⟨_,rfl,Zv _ _ _ _,Zb _ _⟩
 | some ad =>
  have heq:∀ W,(binOp .eql 29 (zL (some ad) l.length c) (zL none 0 0)).run prog W=.ok (.bool false) W:=fun W=>by kernel_rfl
  clear hx hlen h0;have HR:=hd_ hb;clear hb;have hb0:zB w (w.alloc (zC #[] 9)):=zR;have hown:(w.alloc (zC #[] 9)).ownsRow w.heap.size 9 1 (zL (some ⟨w.heap.size,0,none⟩) 0 0) 0 []:=⟨rfl,.inr ⟨w.heap.size,0,#[],rfl,Zd _,heap_alloc_new w _,Zd _,by unfold maxLen;omega,rfl,rfl⟩⟩
  have h1:∀ u∈l.map Value.string,u.oneCell'=true:=fun u hu=>by
   obtain⟨b,-,rfl⟩:=ZD.1 hu;rfl
  have H1:=hd_ h1;clear h1;go_enter func145,ntmps145;go_wp2_with (at_builtin;refine z0k rfl rfl zac hown rfl (HR.kw hb0) rfl hb0 hb0.size H1 (by omega) (by unfold maxLen;omega) ?_;intro A' c' w1 hown1 hbl1)
  go_ret;have h:=hown1;rw[Yc,ZV] at h;exact⟨_,rfl,h,hbl1⟩
