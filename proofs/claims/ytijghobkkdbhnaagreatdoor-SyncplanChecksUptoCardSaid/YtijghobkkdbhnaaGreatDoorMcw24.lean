/- A part. -/
import Derived.Test.YtijghobkkdbhnaaGreatDoorMcw19
import Derived.Test.YtijghobkkdbhnaaGreatDoorMcw20
set_option linter.unusedVariables false
set_option linter.unusedSimpArgs false
set_option maxHeartbeats 8000000
set_option maxRecDepth 100000
namespace Go.Proofs.YtijghobkkdbhnaaGreatDoor
open Go.Proofs.Tryz
open Go.RowKit
open Go.Sort (grow)
theorem zis (r:List Syn)(k:Nat)(hk:k<r.length):(r.take (k+1)).flatMap z4z=(r.take k).flatMap z4z++z4z r[k]:=by
 rw[List.take_succ_eq_append_getElem hk,z5c]
theorem zit (x:Syn):(z4y x).length≤1:=by unfold z4y;split <;> simp
theorem ziu (x:Syn):(z4z x).length≤1:=by unfold z4z;split;simp;exact zit x
theorem ziv (l:List Syn):(l.flatMap z4z).length≤l.length:=by
 induction l with
 | nil=>simp
 | cons x l ih=>rw[List.flatMap_cons,List.length_append,List.length_cons];have:=ziu x;omega
theorem room40 {n:Nat}(h:n≤1000000):n * 40≤140737488355328:=Nat.le_trans (Nat.mul_le_mul_right 40 h) (by decide)
theorem ziw (O:List Hav)(r:List Syn)(hl:O.length+r.length+1≤1000000)(k:Nat):((O++(r.take k).flatMap z4z).length+1) * 40≤140737488355328:=by
 have:=ziv (r.take k);rw[List.length_take] at this;have h2:(O++(r.take k).flatMap z4z).length=O.length+((r.take k).flatMap z4z).length:=List.length_append;exact room40 (by omega)
theorem rsT17 (T:Code)(hT:Tryz.f48.body.bind (zhg 17)=some T)(R:Ending→World→Prop)(w0 w:World)(O:List Hav)(r:List Syn)(v:Value)(A1:Option Addr)(c1:Nat)
  (hA:Aft w0 w w0.heap.size O v) (hS:z57 w0 (.slice A1 r.length c1) r) (hl:O.length+r.length+1≤1000000)
  (hRR:∀ v' X,Aft w0 X w0.heap.size (O++r.flatMap z4z) v'→R (.returned v') X)
  (u0 u2 u3 u4 u7 u8 u9 gA gC gD gE gF gG gH gI gJ gK gL gM gN gO gP gQ gR gT gV gW gX gY gZ i6 i7 i8 ia ib ic ie ig ii ij ik il im io ip iq ir iu iv iw ix iy iz iA iB iC iD iE iF iG iH iI iJ iK iL iM iN iO iP iQ iR iS iT iU iV iW iX iY iZ j0 j1 j2 j5 j6 j7 j8:Value):
  T.wp prog (bodyPost prog Tryz.f48 R) ⟨#[u0,.slice A1 r.length c1,u2,u3,u4,.pointer (some ⟨w0.heap.size,0,none⟩),.func (.func 91) #[] #[.pointer (some ⟨w0.heap.size,0,none⟩)],u7,u8,u9,gA,gC,gD,gE,gF,gG,gH,gI,gJ,gK,gL,gM,gN,gO,gP,gQ,gR,gT,gV,gW,gX,gY,gZ,i6,i7,i8,ia,ib,ic,ie,ig,ii,ij,ik,il,im,io,ip,iq,ir,iu,iv,iw,ix,iy,iz,iA,iB,iC,iD,iE,iF,iG,iH,iI,iJ,iK,iL,iM,iN,iO,iP,iQ,iR,iS,iT,iU,iV,iW,iX,iY,iZ,j0,j1,j2,j5,j6,j7,j8],[]⟩ w:=by
 simp only[Tryz.f48,Option.bind_some,zhg,zhf] at hT
 simp at hT
 subst hT;obtain⟨A2,c2,e2,hc,hm,-⟩:=id hS;have hm':r.length≤140737488355328:=by omega
 clear hc hm e2 A2 c2;have HRR:=hd_ hRR;have HS:=hd_ hS;have HA:=hd_ hA;have HL:=hd_ (ziw O r hl);clear hRR hS hA hl;go_wp2_with fail;go_loopw [77] (fun i wr=>∃(k:Nat) (v':Value),k≤r.length∧i=.int .i64 k∧Hid (Aft w0 wr w0.heap.size (O++(r.take k).flatMap z4z) v')) (fun i _=>r.length - (intOf i).toNat)
 case atStart=>exact⟨0,v,Nat.zero_le _,rfl,hd_ (by rw[List.take_zero,List.flatMap_nil,List.append_nil];exact HA.out)⟩
 case round =>
  obtain⟨k,v',hk,rfl,HI⟩:=hrel;clear HA;by_cases hlt:k<r.length
  ·obtain⟨ad,rfl,hab,y0,y1,y2,y3,y4⟩:=z57.at_ (HS.out.below HI.out.bel) hlt;have HST:=hd_ (zis r k hlt);have HLK:=hd_ (HL.out k);generalize r[k]=x at y0 y1 y2 y3 y4 HST;have HX:=hd_ (HI.out.alloc (.cells #[.int .i64 x.kind,.string x.path,.int .i64 x.num,.string x.frm,.string x.dst] 50));obtain⟨z0,z1,z2,z3,z4⟩:=z3w (x:=x) (z0l wr [.int .i64 x.kind,.string x.path,.int .i64 x.num,.string x.frm,.string x.dst] 50);have HSY:=hd_ (z3z x (wr.alloc (.cells #[.int .i64 x.kind,.string x.path,.int .i64 x.num,.string x.frm,.string x.dst] 50)));cases hst:z3t x.kind with
   | true =>
    have HP:Hid (z4z x=[]):=hd_ (by unfold z4z;rw[hst];rfl)
    rw[hst] at HSY;clear hst;go_wp2_with fail;refine HSY.out.mono ?_;rintro e w' ⟨rfl,hb⟩;have HX2:=hd_ (HX.out.under hb);clear hb;go_wp2_with fail;go_roundw
    case rel=>exact⟨k+1,v',by omega,by go_num,by rw[HST.out,HP.out,List.append_nil];exact HX2⟩
    case measure=>simp [intOf];omega
   | false =>
    have HP:Hid (z4z x=z4y x):=hd_ (by unfold z4z;rw[hst];rfl)
    rw[hst] at HSY;clear hst;go_wp2_with fail;refine HSY.out.mono ?_;rintro e w' ⟨rfl,hb⟩;have HX2:=hd_ (HX.out.under hb);have HB2:=hd_ ((z0l wr [.int .i64 x.kind,.string x.path,.int .i64 x.num,.string x.frm,.string x.dst] 50).below hb (by simp))
    clear hb;obtain⟨q0,q1,q2,q3,q4⟩:=z3w (x:=x) HB2.out;have HAD:=hd_ (z5e x w0 w' w0.heap.size _ v' HX2.out HLK.out);go_wp2_with fail;refine HAD.out.mono ?_;rintro e w3 ⟨rfl,v3,h3,h4⟩;have HX3:=hd_ h3;clear h3 h4;go_wp2_with fail;go_roundw
    case rel=>exact⟨k+1,v3,by omega,by go_num,by rw[HST.out,HP.out,← List.append_assoc];exact HX3⟩
    case measure=>simp [intOf];omega
  ·have hbx:wr.cell? ⟨w0.heap.size,0,none⟩=some v':=HI.out.box.cell 0;have HT:Hid (r.take k=r):=hd_ (List.take_of_length_le (by omega))
   have HR:=hd_ (HRR.out v' wr (by have:=HI.out;rw[HT.out] at this;exact this))
   go_wp2_with fail;exact HR.out
def zju (g:ByteArray→Option Value)(k:ByteArray):Value:=(g k).getD (.slice none 0 0)
def zjv (l:List Nat):List Value:=l.map fun(i:Nat)=>.int .i64 i
theorem zjw (l:List Nat)(i:Nat):zjv (l++[i])=zjv l++[.int .i64 i]:=by unfold zjv;rw[List.map_append];rfl
theorem zjx {w:World}{B:Nat}{e:TypeId}{size n:Nat}{v:Value}{xs:List Value}(h:w.ownsRow B e size v n xs){x:Nat}(hx:v.ownBlock=some x){es:Array MapEntry}{c:Nat}(hm:w.heap[x]? = some (.map es c)):False:=by
 rcases h.2 with⟨rfl,_⟩ | ⟨g,cap,cur,rfl,_,hg,_⟩
 ·cases hx
 ·injection hx with hx
  subst hx;have hx':w.heap[g]? = some (.map es c):=hm;rw[hg] at hx';cases hx'
theorem zjy {κ α:Type}[BEq κ]{kv:κ→Value}{enc:α→Value}{w:World}{b:Nat}{f:κ→Option α}(h:z2k kv enc w b f):∃ es c,w.heap[b]? = some (.map es c):=by
 obtain⟨m,⟨es,c,hm,_⟩,_⟩:=h;exact⟨es,c,hm⟩
structure ComG (w:World)(B U b:Nat)(f:ByteArray→List Nat)(g:ByteArray→Option Value):Prop where
 map:z2k Value.string id w b g
 row:∀ k,w.ownsRow B 3 1 (zju g k) (f k).length (zjv (f k))
 apart:∀ k k' x,k≠k'→(zju g k).ownBlock=some x→(zju g k').ownBlock≠some x
 up:∀ k x,(zju g k).ownBlock=some x→x<U
 bu:b<U
def zjz (w:World)(B U b:Nat)(f:ByteArray→List Nat):Prop:=∃ g,ComG w B U b f g
theorem zjz.new (w:World)(B:Nat):zjz (w.alloc (.map #[] 0)) B (w.heap.size+1) w.heap.size (fun _=>[]):=
 ⟨fun _=>none,z2k.new Value.string id w,fun _=>World.ownsRow_nil _ _ _ _,(fun _ _ _ _ h=>by cases h),(fun _ _ h=>by cases h),Nat.lt_succ_self _⟩
theorem zjz.keep {w w':World}{B U b:Nat}{f:ByteArray→List Nat}(h:zjz w B U b f)(hk:∀ x,x<U→(B≤x∨x=b)→w'.heap[x]? = w.heap[x]?):zjz w' B U b f:=by
 obtain⟨g,h1,h2,h3,h4,h5⟩:=h;refine⟨g,h1.keep (hk b h5 (.inr rfl)),fun k=>?_,h3,h4,h5⟩;have hr:=h2 k;refine⟨hr.1,?_⟩;rcases hr.2 with e | ⟨g1,cap,cur,e1,e2,e3,e4⟩
 ·exact .inl e
 ·exact .inr ⟨g1,cap,cur,e1,e2,(hk g1 (h4 k g1 (by rw[e1];rfl)) (.inl e2)).trans e3,e4⟩
theorem zjz.upTo {w:World}{B U U' b:Nat}{f:ByteArray→List Nat}(h:zjz w B U b f)(hU:U≤U'):zjz w B U' b f:=by
 obtain⟨g,h1,h2,h3,h4,h5⟩:=h;exact⟨g,h1,h2,h3,fun k x e=>Nat.lt_of_lt_of_le (h4 k x e) hU,Nat.lt_of_lt_of_le h5 hU⟩
theorem zjz.look {w:World}{B U b:Nat}{f:ByteArray→List Nat}(h:zjz w B U b f)(k:ByteArray):
  ∃ A c,(∀ W:World,W.heap[b]? = w.heap[b]?→(Instr.lookup 163 (.map (some b)) (.string k) false).run prog W=.ok (.slice A (f k).length c) W)∧w.ownsRow B 3 1 (.slice A (f k).length c) (f k).length (zjv (f k)) ∧
   (∀ x,(Value.slice A (f k).length c).ownBlock=some x→x<U∧B≤x) ∧
   ∀(W:World) (A':Option Addr) (c' n i U':Nat),w.grownBy W (Value.slice A (f k).length c).ownBlock→n=(f k).length+1→W.ownsRow B 3 1 (.slice A' n c') n (zjv (f k)++[.int .i64 i])→U≤w.heap.size→U≤U'→W.heap.size≤U' →
    ((Value.slice A' n c').ownBlock=(Value.slice A (f k).length c).ownBlock∨∃ x,(Value.slice A' n c').ownBlock=some x∧w.heap.size≤x) →
    ∃ W2,(Instr.mapUpdate 163 (.map (some b)) (.string k) (.slice A' n c')).run prog W=.ok () W2∧zjz W2 B U' b (fun x=>if x=k then f k++[i] else f x)∧W.grownBy W2 (some b)∧W2.heap.size=W.heap.size:=by
 obtain⟨g,h1,h2,h3,h4,h5⟩:=h;have hv:z2m id (.slice none 0 0) false (g k)=zju g k:=by unfold z2m zju;cases g k <;> rfl
 have hlk:∀ W:World,W.heap[b]? = w.heap[b]?→(Instr.lookup 163 (.map (some b)) (.string k) false).run prog W=.ok (zju g k) W:=fun W hW=>by
  rw[← hv];exact z2k.lookup (w:=W) (h1.keep hW) (z2i underlying9) underlying163 (z:=.slice none 0 0) (by rfl) k false
 obtain⟨A,c,hsl⟩:=z0o (h2 k);have hrow:=h2 k;have hup:=h4 k;rw[hsl] at hrow hup;simp only[hsl] at hlk
 refine⟨A,c,hlk,hrow,fun x hx=>⟨hup x hx,(hrow.lt x hx).1⟩,?_⟩;intro W A' c' n i U' hg hn hown hUs hU hW hloc;subst hn;have hbs:b<w.heap.size:=h1.lt;have hbrow:∀ k x,(zju g k).ownBlock=some x→x≠b:=by
  intro k x hx e;subst e;obtain⟨es,cc,hm⟩:=zjy h1;exact zjx (h2 k) hx hm
 have h1W:z2k Value.string id W b g:=h1.grown hg (by
  intro e;have:=hbrow k b (by rw[hsl];exact e.symm)
  exact this rfl)
 obtain⟨W2,hu,hM,hgr,hsz⟩:=z2k.update (w:=W) h1W (z2i underlying9) underlying163 k (.slice A' ((f k).length+1) c');refine⟨W2,hu,⟨upd g k (.slice A' ((f k).length+1) c'),hM,?_,?_,?_,Nat.lt_of_lt_of_le h5 hU⟩,hgr,hsz⟩
 ·have hrk:zju (upd g k (.slice A' ((f k).length+1) c')) k=.slice A' ((f k).length+1) c':=by unfold zju upd;rw[if_pos rfl];rfl
  intro k';by_cases e:k'=k
  ·subst e;rw[hrk,if_pos rfl];have hl:(f k'++[i]).length=(f k').length+1:=by simp
   rw[hl,zjw];refine hown.kept hgr ?_;obtain⟨es,cc,hm⟩:=zjy h1W;by_cases hb:(Value.slice A' ((f k').length+1) c').ownBlock=some b
   ·exact absurd hm (fun hm=>zjx hown hb hm)
   ·exact .inr hb
  ·have hrk':zju (upd g k (.slice A' ((f k).length+1) c')) k'=zju g k':=by unfold zju upd;rw[if_neg e]
   rw[hrk',if_neg e];refine ((h2 k').kept hg ?_).kept hgr ?_
   ·cases hb:(zju g k').ownBlock with
    | none=>exact .inl rfl
    | some x =>
     refine .inr fun e2=>?_;exact h3 k' k x e hb (by rw[hsl];exact e2.symm)
   ·cases hb:(zju g k').ownBlock with
    | none=>exact .inl rfl
    | some x=>exact .inr fun e2=>hbrow k' x hb (by injection e2)
 ·intro k1 k2 x hne hx hx2;by_cases e1:k1=k
  ·subst e1;have e2:¬ k2=k1:=fun e=>hne e.symm;have hrk:zju (upd g k1 (.slice A' ((f k1).length+1) c')) k1=.slice A' ((f k1).length+1) c':=by unfold zju upd;rw[if_pos rfl];rfl
   have hrk':zju (upd g k1 (.slice A' ((f k1).length+1) c')) k2=zju g k2:=by unfold zju upd;rw[if_neg e2]
   rw[hrk] at hx;rw[hrk'] at hx2;rcases hloc with h | ⟨y,h,hy⟩
   ·rw[h,← hsl] at hx;exact h3 k1 k2 x hne hx hx2
   ·rw[h] at hx;injection hx with hx
    have:=((h2 k2).lt x hx2).2;omega
  ·have hrk':zju (upd g k (.slice A' ((f k).length+1) c')) k1=zju g k1:=by unfold zju upd;rw[if_neg e1]
   rw[hrk'] at hx;by_cases e2:k2=k
   ·subst e2;have hrk:zju (upd g k2 (.slice A' ((f k2).length+1) c')) k2=.slice A' ((f k2).length+1) c':=by unfold zju upd;rw[if_pos rfl];rfl
    rw[hrk] at hx2;rcases hloc with h | ⟨y,h,hy⟩
    ·rw[h,← hsl] at hx2;exact h3 k1 k2 x hne hx hx2
    ·rw[h] at hx2;injection hx2 with hx2
     have:=((h2 k1).lt x hx).2;omega
   ·have hrk2:zju (upd g k (.slice A' ((f k).length+1) c')) k2=zju g k2:=by unfold zju upd;rw[if_neg e2]
    rw[hrk2] at hx2;exact h3 k1 k2 x hne hx hx2
 ·intro k' x hx;by_cases e:k'=k
  ·subst e;have hrk:zju (upd g k' (.slice A' ((f k').length+1) c')) k'=.slice A' ((f k').length+1) c':=by unfold zju upd;rw[if_pos rfl];rfl
   rw[hrk] at hx;have:=(hown.lt x hx).2;omega
  ·have hrk':zju (upd g k (.slice A' ((f k).length+1) c')) k'=zju g k':=by unfold zju upd;rw[if_neg e]
   rw[hrk'] at hx;exact Nat.lt_of_lt_of_le (h4 k' x hx) hU
def zk0 (pl:List Syn)(k:Nat)(l:ByteArray):List Nat:=(List.range k).filter fun i=>decide (∃ x,pl[i]? = some x∧x.dst=l∧x.dst≠z2q)
def putF (f:ByteArray→List Nat)(l:ByteArray)(i:Nat):ByteArray→List Nat:=fun x=>if x=l then f l++[i] else f x
theorem comF_no {pl:List Syn}{k:Nat}(hk:k<pl.length)(h:pl[k].dst=z2q):zk0 pl (k+1)=zk0 pl k:=by
 funext l
 unfold zk0;rw[List.range_succ,List.filter_append];rw[show ([k].filter fun i=>decide (∃ x,pl[i]? = some x∧x.dst=l∧x.dst≠z2q))=[] from ?_,List.append_nil];rw[List.filter_cons,if_neg,List.filter_nil];rw[decide_eq_true_iff];rintro⟨x,hx,-,hn⟩;rw[List.getElem?_eq_getElem hk] at hx;injection hx with hx
 subst hx;exact hn h
theorem zk1 {pl:List Syn}{k:Nat}(hk:k<pl.length)(h:pl[k].dst≠z2q):zk0 pl (k+1)=putF (zk0 pl k) pl[k].dst k:=by
 funext l
 unfold putF;have hu:zk0 pl (k+1) l=zk0 pl k l++([k].filter fun i=>decide (∃ x,pl[i]? = some x∧x.dst=l∧x.dst≠z2q)):=by
  unfold zk0;rw[List.range_succ,List.filter_append]
 rw[hu,List.filter_cons,List.filter_nil];by_cases e:l=pl[k].dst
 ·subst e;rw[if_pos rfl,if_pos];rw[decide_eq_true_iff];exact⟨pl[k],List.getElem?_eq_getElem hk,rfl,h⟩
 ·rw[if_neg e,if_neg,List.append_nil];rw[decide_eq_true_iff];rintro⟨x,hx,h1,-⟩;rw[List.getElem?_eq_getElem hk] at hx;injection hx with hx
  subst hx;exact e h1.symm
theorem comF_lt {pl:List Syn}{k:Nat}{l:ByteArray}{i:Nat}(h:i∈zk0 pl k l):i<pl.length∧∃ x,pl[i]? = some x∧x.dst=l∧x.dst≠z2q:=by
 unfold zk0 at h;obtain⟨h1,h2⟩:=List.mem_filter.1 h;rw[decide_eq_true_iff] at h2;obtain⟨x,hx,h3⟩:=h2;exact⟨(List.getElem?_eq_some_iff.1 hx).1,x,hx,h3⟩
theorem zk2 (pl:List Syn)(k:Nat)(l:ByteArray):(zk0 pl k l).length≤k:=by
 unfold zk0;exact Nat.le_trans (List.length_filter_le _ _) (by rw[List.length_range];exact Nat.le_refl _)
theorem zk3 {pl:List Syn}{x:Syn}(hx:x∈pl)(hd:x.dst≠z2q):∃ i,i∈zk0 pl pl.length x.dst∧pl[i]? = some x:=by
 obtain⟨i,hi,rfl⟩:=List.getElem_of_mem hx;refine⟨i,?_,List.getElem?_eq_getElem hi⟩;unfold zk0;refine List.mem_filter.2 ⟨List.mem_range.2 hi,?_⟩;rw[decide_eq_true_iff];exact⟨pl[i],List.getElem?_eq_getElem hi,rfl,hd⟩
def stF (pl:List Syn):Nat→ByteArray→Option Nat
 | 0=>fun _=>none
 | k+1=>match pl[k]? with
  | some x=>upd (stF pl k) x.path k
  | none=>stF pl k
theorem zk4 {pl:List Syn}{k:Nat}(hk:k<pl.length):stF pl (k+1)=upd (stF pl k) pl[k].path k:=by
 show (match pl[k]? with | some x=>upd (stF pl k) x.path k | none=>stF pl k)=_
 rw[List.getElem?_eq_getElem hk]
theorem zk5 {pl:List Syn}{k i:Nat}{p:ByteArray}(hk:k≤pl.length)(h:stF pl k p=some i):i<k∧∃ hi:i<pl.length,pl[i].path=p:=by
 induction k with
 | zero=>cases h
 | succ k ih =>
  rw[zk4 hk] at h;unfold upd at h;split at h
  ·rename_i e
   injection h with h
   subst h;exact⟨by omega,hk,e.symm⟩
  ·obtain⟨h1,h2⟩:=ih (by omega) h
   exact⟨by omega,h2⟩
theorem zk6 {pl:List Syn}{k:Nat}{p:ByteArray}(hk:k≤pl.length)(h:stF pl k p=none):∀ i (hi:i<pl.length),i<k→pl[i].path≠p:=by
 induction k with
 | zero=>intro i _ h;omega
 | succ k ih =>
  intro i hi hik e;rw[zk4 hk] at h;unfold upd at h;split at h
  ·cases h
  ·rename_i e2
   by_cases e3:i=k
   ·subst e3;exact e2 e.symm
   ·exact ih (by omega) h i hi (by omega) e
theorem stF_get {pl:List Syn}(hs:z6j pl)(p:ByteArray):z6l pl p=(stF pl pl.length p).bind fun i=>pl[i]?:=by
 cases h:stF pl pl.length p with
 | none =>
  refine z68.2 fun a ha e=>?_;obtain⟨i,hi,rfl⟩:=List.getElem_of_mem ha;exact zk6 (Nat.le_refl _) h i hi hi e
 | some i =>
  obtain⟨-,hi,e⟩:=zk5 (Nat.le_refl _) h;show _=pl[i]?
  rw[List.getElem?_eq_getElem hi,← e];exact z6b hs (List.getElem_mem hi)
theorem zk7 {pl:List Syn}(hs:z6j pl)(b:ByteArray→Bool){k:Nat}(hk:k<pl.length)(hk2:k<(zdz b pl).length):(zdz b pl).set k (zj8 5 (zdz b pl)[k])=zdz (setB b pl[k].path) pl:=by
 refine List.ext_getElem (by unfold zdz;simp) fun j h1 h2=>?_
 have hj:j<pl.length:=by unfold zdz at h2;simpa using h2
 have e1:∀(b:ByteArray→Bool) (h:j<(zdz b pl).length),(zdz b pl)[j]=zdy b pl[j]:=fun b h=>by
  show (pl.map (zdy b))[j]'(by simpa [zdz] using h)=_
  rw[List.getElem_map]
 rw[List.getElem_set,e1 (setB b pl[k].path) h2];by_cases e:k=j
 ·subst e;have hb:setB b pl[k].path pl[k].path=true:=zjm;have e2:=e1 b hk2;have e3:zdy (setB b pl[k].path) pl[k]=zj8 5 pl[k]:=by unfold zdy;rw[if_pos hb];rfl
  have e4:∀ x:Syn,zj8 5 (zdy b x)=zj8 5 x:=fun x=>by unfold zdy;split <;> rfl
  rw[if_pos rfl,e3];exact (congrArg (zj8 5) e2).trans (e4 _)
 ·rw[if_neg e,e1];have hp:pl[j].path≠pl[k].path:=fun ep=>by
   have hh:=List.pairwise_iff_getElem.1 hs;rcases Nat.lt_or_gt_of_ne e with h | h
   ·exact z65 (hh k j hk hj h) ep.symm
   ·exact z65 (hh j k hj hk h) ep
  unfold zdy;have:setB b pl[k].path pl[j].path=b pl[j].path:=by unfold setB;rw[decide_eq_false hp,Bool.false_or]
  rw[this]
theorem zn6 (b:Pat)(hs:List zco)(A H:Option Addr)(a c:Nat)(w:World)(hb:z9j w (.slice A b.parts.length a) b)(hh:zcp w (.slice H hs.length c) hs)(hl:hs.length≤1000000):
  Calls prog 29 #[.agg #[.slice A b.parts.length a,.bool b.rest,.slice H hs.length c]] w fun e w'=>e=.returned (.int .i64 (zcq b hs))∧zB w w':=by
 have hB:=z0l w [.slice A b.parts.length a,.bool b.rest,.slice H hs.length c] 78;have hA:zB w (w.alloc (.cells #[.slice A b.parts.length a,.bool b.rest,.slice H hs.length c] 78)):=(Below.refl _ _).alloc (Nat.le_refl _) _;have HC:=hd_ (fun X (hX:zB w X)=>zcc b A a X (hb.below hX).1 hb.small);have HH:=hd_ hh;have HN1:=hd_ (@zcr b hs);have HN2:=hd_ (fun k=>@zcs b hs k);have HN3:=hd_ (@zct b hs);clear hb hh;go_enter func29,ntmps29;go_upto_region 1 with fail;generalize w.alloc (.cells #[.slice A b.parts.length a,.bool b.rest,.slice H hs.length c] 78)=W1 at hA hB ⊢;obtain⟨d0,d1⟩:=(⟨hB.cell 0,hB.cell 1⟩:W1.cell? ⟨w.heap.size,0,none⟩=some (.slice A b.parts.length a)∧W1.cell? ⟨w.heap.size,1,none⟩=some (.bool b.rest));have HB:=hd_ hB;have HA:=hd_ hA;have HC1:=hd_ (HC.out W1 hA);clear hA hB HC;obtain⟨pe,hpe⟩:∃ pe,z7g b=pe:=⟨_,rfl⟩;have HPE:=hd_ hpe;rw[hpe] at HC1;clear hpe;by_cases h0:pe=0
 case neg =>
  have q:(pe != 0)=true:=by simpa using h0
  have HR:=hd_ (HN1.out (by rw[HPE.out];exact h0))
  clear h0;go_wp2_with fail;refine HC1.out.mono ?_;rintro e w2 ⟨rfl,hb⟩;have HB2:=hd_ (z0r HA.out hb);clear hb d0 d1;go_wp2_with fail;go_ret;exact⟨z7l HR.out.symm,HB2.out⟩
 subst h0;go_wp2_with fail;refine HC1.out.mono ?_;rintro e w2 ⟨rfl,hb⟩;have HA:=hd_ (z0r HA.out hb);have HB:=hd_ (HB.out.below hb HB.out.lt);clear hb d0 d1 HC1;have d2:w2.cell? ⟨w.heap.size,2,none⟩=some (.slice H hs.length c):=HB.out.cell 2;go_wp2_with fail;go_loopw [12] (fun i wr=>∃ k:Nat,i=.int .i64 k∧k≤hs.length∧Hid ((∀ j (hj:j<hs.length),j<k→z7g hs[j].1=0)∧zB w2 wr)) (fun i _=>hs.length - (intOf i).toNat)
 case atStart=>exact⟨0,rfl,Nat.zero_le _,hd_ ⟨fun j _ h=>by omega,Below.refl _ _⟩⟩
 case round =>
  obtain⟨k,rfl,hk,HI⟩:=hrel;clear d2;by_cases hlt:k<hs.length
  ·have HHX:=hd_ (HH.out.below (z0r HA.out HI.out.2));obtain⟨ad,rfl,hab,s0,s1⟩:=HHX.out.at_ hlt;have HPK:=hd_ (HHX.out.2 hs[k] (List.getElem_mem hlt));have HNO:=hd_ (HN2.out k HPE.out hlt);have HYE:Hid (z7g hs[k].1=0→∀ j (hj:j<hs.length),j<k+1→z7g hs[j].1=0):=hd_ (fun h j hj hjk=>by
    by_cases e:j=k
    ·subst e;exact h
    ·exact HI.out.1 j hj (by omega))
   generalize hs[k]=q at s0 s1 HPK HNO HYE;obtain⟨q,Aq,cq⟩:=q;change wr.cell? _=some (.slice Aq q.parts.length cq) at s0;change wr.cell? _=some (.bool q.rest) at s1;have hX:zB w2 (wr.alloc (.cells #[.slice Aq q.parts.length cq,.bool q.rest] 68)):=HI.out.2.alloc HI.out.2.size _;have hbq:zB wr (wr.alloc (.cells #[.slice Aq q.parts.length cq,.bool q.rest] 68)):=(Below.refl _ _).alloc (Nat.le_refl _) _;have HCQ:=hd_ (zcc q Aq cq (wr.alloc (.cells #[.slice Aq q.parts.length cq,.bool q.rest] 68)) (HPK.out.below hbq).1 HPK.out.small);have HX:=hd_ hX;clear hab hX hbq;obtain⟨qe,hqe⟩:∃ qe,z7g q=qe:=⟨_,rfl⟩;have HQE:=hd_ hqe;rw[hqe] at HCQ;clear hqe;have HLT:=hd_ hlt;by_cases h1:qe=0
   ·subst h1;have HN:=hd_ (HYE.out HQE.out);go_wp2_with fail;refine HCQ.out.mono ?_;rintro e w4 ⟨rfl,hb⟩;have HB4:=hd_ (z0r HX.out hb);clear hb s0 s1;go_wp2_with fail;go_roundw
    case rel=>exact⟨k+1,by go_num,by omega,hd_ ⟨HN.out,HB4.out⟩⟩
    case measure=>simp [intOf];omega
   ·have hq:(qe != 0)=true:=by simpa using h1
    have HR:=hd_ (HNO.out (by show z7g q≠0;rw[HQE.out];exact h1))
    clear h1;go_wp2_with fail;refine HCQ.out.mono ?_;rintro e w4 ⟨rfl,hb⟩;have HB4:=hd_ (z0r HA.out (z0r HX.out hb));clear hb s0 s1;go_wp2_with fail;go_ret;exact⟨z7l HR.out.symm,HB4.out⟩
  ·have hke:k=hs.length:=by omega
   subst hke;have HE:=hd_ (HN3.out HPE.out (fun j hj=>HI.out.1 j hj hj));have HBE:=hd_ (z0r HA.out HI.out.2);have d2:wr.cell? ⟨w.heap.size,2,none⟩=some (.slice H hs.length c):=(HB.out.below HI.out.2 HB.out.lt).cell 2;have hge:¬((hs.length:Int)<(hs.length:Int)):=by omega
   by_cases h6:64<hs.length
   ·have q6:decide ((64:Int)<(hs.length:Int))=true:=by simp;omega
    have q7:(64:Int)<(hs.length:Int):=by omega
    have HR:=hd_ (HE.out.trans (if_pos h6));clear h6;go_wp2_with fail;go_ret;exact⟨z7l HR.out.symm,HBE.out⟩
   ·have q6:decide ((64:Int)<(hs.length:Int))=false:=by simp;omega
    have q7:¬(64:Int)<(hs.length:Int):=by omega
    have HR:=hd_ (HE.out.trans (if_neg h6));clear h6;go_wp2_with fail;go_ret;exact⟨z7l HR.out.symm,HBE.out⟩
theorem zn7 (A B:Option Addr)(n m a b:Nat)(x y:Bool)(h0:Value)(w:World):Calls prog 28 #[.agg #[(.slice A n a),(.bool x),(.slice B m b),(.bool y),h0]] w fun e w'=>e=.returned (.agg #[.bool false,(.slice A n a),(.bool x),(.slice B m b),(.bool y)])∧zB w w':=by
 have hB:=z0l w [(.slice A n a),(.bool x),(.slice B m b),(.bool y),h0] 71;have hA:zB w (w.alloc (.cells #[(.slice A n a),(.bool x),(.slice B m b),(.bool y),h0] 71)):=(Below.refl _ _).alloc (Nat.le_refl _) _;go_enter func28,ntmps28;go_upto_region 1 with fail;have hZ:=z0l (w.alloc (.cells #[(.slice A n a),(.bool x),(.slice B m b),(.bool y),h0] 71)) [.bool false,.slice none 0 0,.bool false,.slice none 0 0,.bool false] 74;rw[World.size_alloc] at hZ;have hB1:=hB.alloc (.cells #[.bool false,.slice none 0 0,.bool false,.slice none 0 0,.bool false] 74);have hA1:=hA.alloc (by simp:w.heap.size≤_) (.cells #[.bool false,.slice none 0 0,.bool false,.slice none 0 0,.bool false] 74)
 generalize (w.alloc (.cells #[(.slice A n a),(.bool x),(.slice B m b),(.bool y),h0] 71)).alloc (.cells #[.bool false,.slice none 0 0,.bool false,.slice none 0 0,.bool false] 74)=W1 at hZ hB1 hA1 ⊢;obtain⟨d0,d1,d2,d3⟩:=(⟨hB1.cell 0,hB1.cell 1,hB1.cell 2,hB1.cell 3⟩:W1.cell? ⟨w.heap.size,0,none⟩=some (.slice A n a)∧W1.cell? ⟨w.heap.size,1,none⟩=some (.bool x)∧W1.cell? ⟨w.heap.size,2,none⟩=some (.slice B m b)∧W1.cell? ⟨w.heap.size,3,none⟩=some (.bool y));obtain⟨z0,z1,z2,z3,z4⟩:=(⟨hZ.cell 0,hZ.cell 1,hZ.cell 2,hZ.cell 3,hZ.cell 4⟩:W1.cell? ⟨w.heap.size+1,0,none⟩=some (.bool false)∧W1.cell? ⟨w.heap.size+1,1,none⟩=some (.slice none 0 0)∧W1.cell? ⟨w.heap.size+1,2,none⟩=some (.bool false)∧W1.cell? ⟨w.heap.size+1,3,none⟩=some (.slice none 0 0)∧W1.cell? ⟨w.heap.size+1,4,none⟩=some (.bool false));obtain⟨y0,y1,y2,y3,y4⟩:=(⟨hZ.frozen 0,hZ.frozen 1,hZ.frozen 2,hZ.frozen 3,hZ.frozen 4⟩:W1.frozen? ⟨w.heap.size+1,0,none⟩=false∧W1.frozen? ⟨w.heap.size+1,1,none⟩=false∧W1.frozen? ⟨w.heap.size+1,2,none⟩=false∧W1.frozen? ⟨w.heap.size+1,3,none⟩=false∧W1.frozen? ⟨w.heap.size+1,4,none⟩=false);go_wp2_with fail;have hE:=((((hZ.set_ 0 (.bool false)).set_ 1 (.slice A n a)).set_ 2 (.bool x)).set_ 3 (.slice B m b)).set_ 4 (.bool y);have hb:=((((hA1.setCell (p:=⟨w.heap.size+1,0,none⟩) (by simp) (.bool false)).setCell (p:=⟨w.heap.size+1,1,none⟩) (by simp) (.slice A n a)).setCell (p:=⟨w.heap.size+1,2,none⟩) (by simp) (.bool x)).setCell (p:=⟨w.heap.size+1,3,none⟩) (by simp) (.slice B m b)).setCell (p:=⟨w.heap.size+1,4,none⟩) (by simp) (.bool y)
 generalize ((((W1.setCell ⟨w.heap.size+1,0,none⟩ (.bool false)).setCell ⟨w.heap.size+1,1,none⟩ (.slice A n a)).setCell ⟨w.heap.size+1,2,none⟩ (.bool x)).setCell ⟨w.heap.size+1,3,none⟩ (.slice B m b)).setCell ⟨w.heap.size+1,4,none⟩ (.bool y)=W3 at hE hb ⊢;have e0:=hE.cell 0;have e1:=hE.cell 1;have e2:=hE.cell 2;have e3:=hE.cell 3;have e4:=hE.cell 4;exact bodyPost_ret (v:=.agg #[.bool false,.slice A n a,.bool x,.slice B m b,.bool y]) (by simp [results,results28,go_sem,e0,e1,e2,e3,e4]) rfl ⟨rfl,hb⟩
theorem zn8 (A H:Option Addr)(n a k c:Nat)(x y:Bool)(r0:Value)(w:World):Calls prog 30 #[.agg #[.slice A n a,.bool x,r0,.bool y,.slice H k c]] w fun e w'=>e=.returned (.agg #[.slice A n a,.bool x,.slice H k c])∧zB w w':=by
 have hB:=z0l w [.slice A n a,.bool x,r0,.bool y,.slice H k c] 71;have hA:zB w (w.alloc (.cells #[.slice A n a,.bool x,r0,.bool y,.slice H k c] 71)):=(Below.refl _ _).alloc (Nat.le_refl _) _;go_enter func30,ntmps30;go_upto_region 1 with fail;have hZ:=z0l (w.alloc (.cells #[.slice A n a,.bool x,r0,.bool y,.slice H k c] 71)) [.slice none 0 0,.bool false,.slice none 0 0] 78;rw[World.size_alloc] at hZ;have hB1:=hB.alloc (.cells #[.slice none 0 0,.bool false,.slice none 0 0] 78);have hA1:=hA.alloc (by simp:w.heap.size≤_) (.cells #[.slice none 0 0,.bool false,.slice none 0 0] 78)
 generalize (w.alloc (.cells #[.slice A n a,.bool x,r0,.bool y,.slice H k c] 71)).alloc (.cells #[.slice none 0 0,.bool false,.slice none 0 0] 78)=W1 at hZ hB1 hA1 ⊢;obtain⟨d0,d1,d4⟩:=(⟨hB1.cell 0,hB1.cell 1,hB1.cell 4⟩:W1.cell? ⟨w.heap.size,0,none⟩=some (.slice A n a)∧W1.cell? ⟨w.heap.size,1,none⟩=some (.bool x)∧W1.cell? ⟨w.heap.size,4,none⟩=some (.slice H k c));obtain⟨z0,z1,z2⟩:=(⟨hZ.cell 0,hZ.cell 1,hZ.cell 2⟩:W1.cell? ⟨w.heap.size+1,0,none⟩=some (.slice none 0 0)∧W1.cell? ⟨w.heap.size+1,1,none⟩=some (.bool false)∧W1.cell? ⟨w.heap.size+1,2,none⟩=some (.slice none 0 0));obtain⟨y0,y1,y2⟩:=(⟨hZ.frozen 0,hZ.frozen 1,hZ.frozen 2⟩:W1.frozen? ⟨w.heap.size+1,0,none⟩=false∧W1.frozen? ⟨w.heap.size+1,1,none⟩=false∧W1.frozen? ⟨w.heap.size+1,2,none⟩=false);go_wp2_with fail;have hE:=((hZ.set_ 0 (.slice A n a)).set_ 1 (.bool x)).set_ 2 (.slice H k c);have hb:=((hA1.setCell (p:=⟨w.heap.size+1,0,none⟩) (by simp) (.slice A n a)).setCell (p:=⟨w.heap.size+1,1,none⟩) (by simp) (.bool x)).setCell (p:=⟨w.heap.size+1,2,none⟩) (by simp) (.slice H k c)
 generalize ((W1.setCell ⟨w.heap.size+1,0,none⟩ (.slice A n a)).setCell ⟨w.heap.size+1,1,none⟩ (.bool x)).setCell ⟨w.heap.size+1,2,none⟩ (.slice H k c)=W3 at hE hb ⊢;have e0:=hE.cell 0;have e1:=hE.cell 1;have e2:=hE.cell 2;exact bodyPost_ret (v:=.agg #[.slice A n a,.bool x,.slice H k c]) (by simp [results,results30,go_sem,e0,e1,e2]) rfl ⟨rfl,hb⟩
section
variable {hs : List Hav} {pl : List Syn} {b : ByteArray → Bool} {r i : Nat}
def zqe (hs:List Hav)(pl:List Syn)(b:ByteArray→Bool)(x:Syn):Prop:=z3t x.kind=false→b x.path=false→x.dst≠z2q→∀ h∈hs,h.loc=x.dst→h.path≠x.path→¬ ze5 pl b h.path
structure zqf (hs:List Hav)(pl:List Syn)(r i:Nat)(b:ByteArray→Bool):Prop where
 sound:∀ p,b p=true→Bl hs pl p
 prog:∃ b0:ByteArray→Bool,(∀ p,b0 p=true→b p=true)∧((∀ x∈pl,zqe hs pl b0 x)∨zjs b0 pl+r≤pl.length)∧(zjs b pl+1≤zjs b0 pl∨(b=b0∧∀ j (hj:j<pl.length),j<i→zqe hs pl b pl[j]))
theorem rd_init (hs:List Hav)(pl:List Syn):zqf hs pl 0 0 (fun _=>false):=
 ⟨fun p h=>(by cases h),fun _=>false,fun p h=>h,.inr (by rw[Nat.add_zero];exact List.length_filter_le ..),.inr ⟨rfl,fun j _ h=>by omega⟩⟩
theorem rd_no (h:zqf hs pl r i b)(hi:i<pl.length)(hc:zqe hs pl b pl[i]):zqf hs pl r (i+1) b:=by
 obtain⟨h1,b0,h2,h3,h4⟩:=h;refine⟨h1,b0,h2,h3,?_⟩;rcases h4 with h4 | ⟨h4,h5⟩
 ·exact .inl h4
 ·refine .inr ⟨h4,fun j hj hji=>?_⟩;by_cases e:j=i
  ·subst e;exact hc
  ·exact h5 j hj (by omega)
theorem rd_mark (h:zqf hs pl r i b)(hi:i<pl.length)(hk:z3t pl[i].kind=false)(hb:b pl[i].path=false)(hd:pl[i].dst≠z2q){a:Hav}(ha:a∈hs)(hl:a.loc=pl[i].dst)(hp:a.path≠pl[i].path)(hs1:ze5 pl b a.path):zqf hs pl r (i+1) (setB b pl[i].path):=by
 obtain⟨h1,b0,h2,h3,h4⟩:=h;have hm:=List.getElem_mem hi;refine⟨fun p hp'=>?_,b0,fun p hp'=>zjl (h2 p hp'),h3,.inl ?_⟩
 ·rcases zjn hp' with rfl | e
  ·exact ze7 h1 hm hk hd ha hl hp hs1
  ·exact h1 p e
 ·have hf:=zjt hm hk hb;rcases h4 with h4 | ⟨rfl,-⟩
  ·omega
  ·exact hf
theorem zqg (h:zqf hs pl r i b){b0:ByteArray→Bool}(h2:∀ p,b0 p=true→b p=true)(hc:∀ x∈pl,zqe hs pl b0 x):b=b0:=by
 have e:=ze6 (fun p hp=>h.sound p (h2 p hp)) hc;funext p
 rw[Bool.eq_iff_iff];refine⟨fun hp=>?_,h2 p⟩;rw[e];exact zdx.2 (h.sound p hp)
theorem zqh (h:zqf hs pl r pl.length b):zqf hs pl (r+1) 0 b:=by
 have h':=h;obtain⟨h1,b0,h2,h3,h4⟩:=h;refine⟨h1,b,fun p hp=>hp,?_,.inr ⟨rfl,fun j _ h=>by omega⟩⟩
 rcases h4 with h4 | ⟨rfl,h5⟩
 ·rcases h3 with h3 | h3
  ·have:=zqg h' h2 h3;subst this;omega
  ·exact .inr (by omega)
 ·refine .inl fun x hx=>?_;obtain⟨j,hj,rfl⟩:=List.getElem_of_mem hx;exact h5 j hj hj
theorem rd_end (h:zqf hs pl pl.length 0 b):b=blB hs pl:=by
 have h':=h;obtain⟨h1,b0,h2,h3,h4⟩:=h;have hz:zjs b pl=0→∀ x∈pl,zqe hs pl b x:=fun e x hx hk hb=>by
  unfold zjs at e;have:=List.eq_nil_of_length_eq_zero e;rw[List.filter_eq_nil_iff] at this;have h6:=this x hx;rw[hk,hb] at h6;exact absurd rfl h6
 have h0:b=b0:=by
  rcases h4 with h4 | ⟨h4,-⟩
  ·rcases h3 with h3 | h3
   ·exact zqg h' h2 h3
   ·omega
  ·exact h4
 subst h0;rcases h3 with h3 | h3
 ·exact ze6 h1 h3
 ·exact ze6 h1 (hz (by omega))
def atR (hs:List Hav)(l:ByteArray):Option Hav:=hs.find? (fun h=>decide (h.loc=l))
def zqi (P:List Syn)(p:ByteArray):Bool:=match z6l P p with | none=>true | some y=>z3t y.kind
def zqj (hs:List Hav)(P:List Syn)(x:Syn):Bool:=decide (x.dst≠z2q) && match atR hs x.dst with | none=>false | some h=>decide (h.path≠x.path) && zqi P h.path
theorem zqk {p:ByteArray}:zqi (zdz b pl) p=true↔ze5 pl b p:=by
 unfold zqi ze5;rw[ze3];cases e:z6l pl p with
 | none=>exact⟨fun _=>.inl rfl,fun _=>rfl⟩
 | some y =>
  show z3t (zdy b y).kind=true↔_
  rw[ze2,(z67 e).2,Bool.or_eq_true];constructor
  ·rintro (h | h)
   ·exact .inr ⟨y,rfl,.inr h⟩
   ·exact .inr ⟨y,rfl,.inl h⟩
  ·rintro (h | ⟨z,h,h1⟩)
   ·cases h
   ·cases h
    exact h1.symm
theorem zql {l:ByteArray}{a:Hav}(h:atR hs l=some a):a∈hs∧a.loc=l:=⟨List.mem_of_find?_eq_some h,by simpa using List.find?_some h⟩
theorem atR_of (h1:zek hs){a:Hav}(ha:a∈hs):∃ c,atR hs a.loc=some c∧c.path=a.path:=by
 cases e:atR hs a.loc with
 | none =>
  unfold atR at e;rw[List.find?_eq_none] at e;exact absurd (decide_eq_true rfl) (e a ha)
 | some c=>exact⟨c,rfl,h1.loc c (zql e).1 a ha (zql e).2⟩
theorem zqm (b:ByteArray→Bool)(hi:i<pl.length)(hi2:i<(zdz b pl).length):(zdz b pl)[i]=zdy b pl[i]:=by
 show (pl.map (zdy b))[i]'(by simpa [zdz] using hi2)=_
 rw[List.getElem_map]
theorem rd_yes (h1:zek hs)(hsrt:z6j pl)(h:zqf hs pl r i b)(hi:i<pl.length)(hi2:i<(zdz b pl).length)(hk:(zdz b pl)[i].kind≠6)(ho:zqj hs (zdz b pl) (zdz b pl)[i]=true):
  ∃ b',zqf hs pl r (i+1) b'∧(zdz b pl).set i (zj8 5 (zdz b pl)[i])=zdz b' pl:=by
 have em:=zqm b hi hi2;by_cases c:z3t pl[i].kind=false∧b pl[i].path=false
 ·have e2:zdy b pl[i]=pl[i]:=by unfold zdy;rw[c.2];rfl
  refine⟨setB b pl[i].path,?_,zk7 hsrt b hi hi2⟩;rw[em,e2] at ho;unfold zqj at ho;rw[Bool.and_eq_true,decide_eq_true_eq] at ho;obtain⟨o1,o2⟩:=ho;cases e:atR hs pl[i].dst with
  | none=>rw[e] at o2;cases o2
  | some a =>
   rw[e] at o2;have o3:(decide (a.path≠pl[i].path) && zqi (zdz b pl) a.path)=true:=o2;rw[Bool.and_eq_true,decide_eq_true_eq] at o3;exact rd_mark h hi c.1 c.2 o1 (zql e).1 (zql e).2 o3.1 (zqk.1 o3.2)
 ·have hst:z3t (zdz b pl)[i].kind=true:=by
   rw[em,ze2];cases e1:b pl[i].path with
   | true=>rfl
   | false =>
    cases e2:z3t pl[i].kind with
    | true=>rfl
    | false=>exact absurd ⟨e2,e1⟩ c
  have h5:(zdz b pl)[i].kind=5:=by
   unfold z3t at hst;simp only[Bool.or_eq_true,beq_iff_eq] at hst
   exact hst.resolve_left hk
  refine⟨b,rd_no h hi (fun e1 e2=>absurd ⟨e1,e2⟩ c),?_⟩;have e3:zj8 5 (zdz b pl)[i]=(zdz b pl)[i]:=by
   show { (zdz b pl)[i] with kind:=5 }=_
   conv=>rhs;rw[← (show ({ (zdz b pl)[i] with kind:=(zdz b pl)[i].kind }:Syn)=(zdz b pl)[i] from rfl)]
   rw[h5]
  rw[e3,List.set_getElem_self]
theorem rd_not (h1:zek hs)(h:zqf hs pl r i b)(hi:i<pl.length)(hi2:i<(zdz b pl).length)(hn:¬((zdz b pl)[i].kind≠6∧zqj hs (zdz b pl) (zdz b pl)[i]=true)):zqf hs pl r (i+1) b:=by
 refine rd_no h hi fun c1 c2 c3 a ha e1 e2 hst=>hn ?_;have e3:zdy b pl[i]=pl[i]:=by unfold zdy;rw[c2];rfl
 rw[zqm b hi hi2,e3];refine⟨fun e=>?_,?_⟩
 ·rw[e] at c1;exact absurd c1 (by decide)
 ·obtain⟨c,h2,h3⟩:=atR_of h1 ha;rw[e1] at h2;unfold zqj;rw[h2,decide_eq_true c3,Bool.true_and];show (decide (c.path≠pl[i].path) && zqi (zdz b pl) c.path)=true
  rw[h3,decide_eq_true e2,Bool.true_and];exact zqk.2 hst
end
section
variable {hs ws : List Hav} {op dt : List ByteArray}
theorem zqn {α β:Type}{ka:α→ByteArray}{kb:β→ByteArray}{f:α→Option β}(hf:∀ a y,f a=some y→kb y=ka a):∀ {l:List α},z63 ka l→∀ p,z64 kb (l.filterMap f) p=(z64 ka l p).bind f
 | [],_,p=>rfl
 | a :: l,h,p=>by
  have ih:=zqn hf h.tail p;rw[z69];by_cases e:ka a=p
  ·rw[if_pos e];show _=f a
   have hno:z64 ka l p=none:=z68.2 fun c hc ec=>z65 (h.head c hc) (e.trans ec.symm);rw[hno] at ih;cases ef:f a with
   | none=>rw[List.filterMap_cons_none ef,ih];rfl
   | some y=>rw[List.filterMap_cons_some ef,z69,if_pos ((hf a y ef).trans e)]
  ·rw[if_neg e];cases ef:f a with
   | none=>rw[List.filterMap_cons_none ef,ih]
   | some y=>rw[List.filterMap_cons_some ef,z69,if_neg (fun e2=>e ((hf a y ef).symm.trans e2)),ih]
theorem zqo {α β:Type}{ka:α→ByteArray}{kb:β→ByteArray}{f:α→Option β}(hf:∀ a y,f a=some y→kb y=ka a){l:List α}(h:z63 ka l):z63 kb (l.filterMap f):=by
 refine List.pairwise_filterMap.2 (h.imp ?_);intro a c hac y hy z hz;rw[hf a y hy,hf c z hz];exact hac
structure zqp (hs ws:List Hav)(k:Nat)(al:List Hav):Prop where
 srt:z6i al
 mem:∀ x∈al,x∈hs∨x∈ws
 get:∀ p,z6k al p=(z6k hs p).or (z6k (ws.take k) p)
 len:al.length≤hs.length+k
theorem all_0 (h1:zek hs):zqp hs ws 0 hs:=⟨h1.srt,fun x hx=>.inl hx,fun p=>by rw[List.take_zero];exact (Option.or_none).symm,Nat.le_refl _⟩
theorem zqq {k:Nat}(hk:k<ws.length)(p:ByteArray):z6k (ws.take (k+1)) p=(z6k (ws.take k) p).or (if ws[k].path=p then some ws[k] else none):=by
 rw[List.take_succ_eq_append_getElem hk];show z64 Hav.path _ p=_
 rw[z6a,z69];rfl
theorem all_had {k:Nat}{al:List Hav}(h2:zek ws)(h:zqp hs ws k al)(hk:k<ws.length){a:Hav}(e:z6k hs ws[k].path=some a):zqp hs ws (k+1) al:=by
 refine⟨h.srt,h.mem,fun p=>?_,by have:=h.len;omega⟩
 rw[h.get p,zqq hk p];by_cases c:ws[k].path=p
 ·subst c;rw[e];rfl
 ·rw[if_neg c,Option.or_none]
theorem all_put {k:Nat}{al:List Hav}(h1:zek hs)(h2:zek ws)(h:zqp hs ws k al)(hk:k<ws.length)(e:z6k hs ws[k].path=none):zqp hs ws (k+1) (zl6 al ws[k]):=by
 have hm:=List.getElem_mem hk;have hv:∀ x∈al,z2x x.path=true:=fun x hx=>(h.mem x hx).elim (h1.valid x) (h2.valid x);obtain⟨i1,i2⟩:=zld al ws[k] h.srt hv (h2.valid _ hm);refine⟨i1,fun x hx=>?_,fun p=>?_,by have:=zlc al ws[k];have:=h.len;omega⟩
 ·rcases zlb _ _ _ hx with rfl | hx
  ·exact .inr hm
  ·exact h.mem x hx
 ·rw[i2 p,zqq hk p];by_cases c:p=ws[k].path
  ·subst c;rw[if_pos rfl,if_pos rfl,e];have hno:z6k (ws.take k) ws[k].path=none:=z68.2 fun c hc ec=>by
    obtain⟨j,hj,rfl⟩:=List.getElem_of_mem hc;rw[List.getElem_take] at ec;have hjk:j<k:=by rw[List.length_take] at hj;omega
    have:=List.pairwise_iff_getElem.1 h2.srt j k (by omega) hk hjk
    exact z65 this ec
   rw[hno];rfl
  ·rw[if_neg c,if_neg (fun e2=>c e2.symm),Option.or_none,h.get p]
def zqr (hs ws:List Hav)(op dt:List ByteArray)(a:Hav):Option Syn:=(z6p (z6k hs a.path) (z6k ws a.path)).map (zer op dt)
theorem zqs {a:Hav}{y:Syn}(h:zqr hs ws op dt a=some y):y.path=a.path:=by
 unfold zqr at h;rw[Option.map_eq_some_iff] at h;obtain⟨x,h1,rfl⟩:=h;show x.path=_
 rcases zew h1 with⟨c,e1,e2,rfl⟩ | ⟨c,e1,e2,rfl⟩ | ⟨c,d,e1,e2,-,rfl⟩
 ·exact (z67 e1).2
 ·exact (z67 e2).2
 ·exact (z67 e2).2
theorem zqt (h1:zek hs)(h2:zek ws){al:List Hav}(h:zqp hs ws ws.length al):al.filterMap (zqr hs ws op dt)=zes hs ws op dt:=by
 obtain⟨p1,p2⟩:=zex (op:=op) (dt:=dt) h1 h2;refine z6d (zqo (fun a y=>zqs) h.srt) p1 fun p=>?_;rw[zqn (fun a y=>zqs) h.srt p];refine Eq.trans ?_ (p2 p).symm;have hg:=h.get p;rw[List.take_length] at hg;show (z6k al p).bind _=_
 cases e1:z6k hs p with
 | some a =>
  rw[e1] at hg;rw[hg];show zqr hs ws op dt a=_
  unfold zqr;rw[(z67 e1).2,e1]
 | none =>
  rw[e1] at hg;rw[hg];show (z6k ws p).bind _=_
  cases e2:z6k ws p with
  | none=>rfl
  | some a =>
   show zqr hs ws op dt a=_
   unfold zqr;rw[(z67 e2).2,e1,e2]
end
section
variable {u0 u1 u2 u3 u4 u5 u6 u7 u8 u9 gA gC gD gE gF gG gH gI gJ gK gL gM gN gO gP gQ gR gT gV gW gX gY gZ i6 i7 i8 ia ib ic ie ig ii ij ik il im io ip iq ir iu iv iw ix iy iz iA iB iC iD iE iF iG iH iI iJ iK iL iM iN iO iP iQ iR iS iT iU iV iW iX iY iZ j0 j1 j2 j5 j6 j7 j8 j9 jb jd jf jg jh ji jj jk jl jm bE bF bG bH bI bJ bK bL bM bN bO bP bQ bT bU bV bW bX bY bZ cj ck cn cx cy cz cA cB cD cG cH cI cJ cM cN cO cP cQ cR cT cU cW cX cY cZ da dc dd de df dg dh di dj dm du dw dx dy dz dA : Value}
theorem stR14 (ops:Array Oper)(hops:Tryz.f50.body.bind (z0x 14)=some ops)(Q:Exit→Act→World→Prop)(V:World)(g15 g17:Nat)(wz hz:Hav)(b1 b2:Bool)
  (h15:Blk V g15 96 [.string wz.path,.int .i64 wz.num,.string wz.loc]) (h17:Blk V g17 96 [.string hz.path,.int .i64 hz.num,.string hz.loc])
  (hQ:∀(fN fO fP fQ fR fS fT fU:Value),Q .normal ⟨#[u0,u1,u2,u3,u4,u5,u6,u7,u8,u9,gA,gC,gD,gE,gF,.pointer (some ⟨g15,0,none⟩),.bool b1,.pointer (some ⟨g17,0,none⟩),.bool b2,gK,gL,gM,gN,gO,gP,gQ,gR,gT,gV,gW,gX,gY,gZ,i6,i7,i8,ia,ib,ic,ie,ig,ii,ij,ik,il,im,io,ip,iq,ir,iu,iv,iw,ix,iy,iz,iA,iB,iC,iD,iE,iF,iG,iH,iI,iJ,iK,iL,iM,iN,iO,iP,iQ,fN,fO,fP,fQ,fR,fS,fT,fU,.bool (b1 && b2 && decide (wz=hz)),j0,j1,j2,j5,j6,j7,j8,j9,jb,jd,jf,jg,jh,ji,jj,jk,jl,jm,bE,bF,bG,bH,bI,bJ,bK,bL,bM,bN,bO,bP,bQ,bT,bU,bV,bW,bX,bY,bZ,cj,ck,cn,cx,cy,cz,cA,cB,cD,cG,cH,cI,cJ,cM,cN,cO,cP,cQ,cR,cT,cU,cW,cX,cY,cZ,da,dc,dd,de,df,dg,dh,di,dj,dm,du,dw,dx,dy,dz,dA],[]⟩ V):
  (Code.region 14 ops false).wp prog Q ⟨#[u0,u1,u2,u3,u4,u5,u6,u7,u8,u9,gA,gC,gD,gE,gF,.pointer (some ⟨g15,0,none⟩),.bool b1,.pointer (some ⟨g17,0,none⟩),.bool b2,gK,gL,gM,gN,gO,gP,gQ,gR,gT,gV,gW,gX,gY,gZ,i6,i7,i8,ia,ib,ic,ie,ig,ii,ij,ik,il,im,io,ip,iq,ir,iu,iv,iw,ix,iy,iz,iA,iB,iC,iD,iE,iF,iG,iH,iI,iJ,iK,iL,iM,iN,iO,iP,iQ,iR,iS,iT,iU,iV,iW,iX,iY,iZ,j0,j1,j2,j5,j6,j7,j8,j9,jb,jd,jf,jg,jh,ji,jj,jk,jl,jm,bE,bF,bG,bH,bI,bJ,bK,bL,bM,bN,bO,bP,bQ,bT,bU,bV,bW,bX,bY,bZ,cj,ck,cn,cx,cy,cz,cA,cB,cD,cG,cH,cI,cJ,cM,cN,cO,cP,cQ,cR,cT,cU,cW,cX,cY,cZ,da,dc,dd,de,df,dg,dh,di,dj,dm,du,dw,dx,dy,dz,dA],[]⟩ V:=by
 simp only[Tryz.f50,Option.bind_some,z0x] at hops
 simp at hops
 subst hops;have HQ:=hd_ hQ;obtain⟨y0,y1,y2⟩:=z3x (x:=wz) h15;obtain⟨z0,z1,z2⟩:=z3x (x:=hz) h17;have heq:=zi9 wz hz;generalize decide (wz=hz)=be at HQ heq;clear hQ h15 h17;cases b1
 ·go_wp2_with fail;exact HQ.out _ _ _ _ _ _ _ _
 ·cases b2
  ·go_wp2_with fail;exact HQ.out _ _ _ _ _ _ _ _
  ·go_wp2_with fail;cases be
   ·exact HQ.out _ _ _ _ _ _ _ _
   ·exact HQ.out _ _ _ _ _ _ _ _
def zqy (dt:List ByteArray)(f d:ByteArray):Bool:=(decide (f≠z2q) && decide (f∈dt)) || (decide (d≠z2q) && decide (d∈dt))
theorem stR18 (ops:Array Oper)(hops:Tryz.f50.body.bind (z0x 18)=some ops)(Q:Exit→Act→World→Prop)(V:World)(g:Nat)(x:Syn)(dt:List ByteArray)(dv:Value)
  (hB:Blk V g 50 [.int .i64 x.kind,.string x.path,.int .i64 x.num,.string x.frm,.string x.dst]) (hI:∀ X s,zB V X→Calls prog 96 #[dv,.string s] X fun e w'=>e=.returned (.bool (decide (s∈dt)))∧zB X w')
  (hQ:∀(ag ah ai aj ak am ao aq ar au aw ax ay az aA aB aC aD aE:Value) (w':World),zB V w'→Q .normal ⟨#[u0,u1,u2,dv,u4,u5,u6,u7,u8,u9,gA,gC,gD,gE,gF,gG,gH,gI,gJ,.pointer (some ⟨g,0,none⟩),gL,gM,gN,gO,gP,gQ,gR,gT,gV,gW,gX,gY,gZ,i6,i7,i8,ia,ib,ic,ie,ig,ii,ij,ik,il,im,io,ip,iq,ir,iu,iv,iw,ix,iy,iz,iA,iB,iC,iD,iE,iF,iG,iH,iI,iJ,iK,iL,iM,iN,iO,iP,iQ,iR,iS,iT,iU,iV,iW,iX,iY,iZ,j0,j1,j2,j5,j6,j7,j8,j9,jb,jd,jf,jg,jh,ji,jj,jk,jl,jm,bE,bF,bG,bH,ag,ah,ai,aj,ak,am,ao,aq,ar,au,aw,ax,ay,az,aA,aB,aC,aD,aE,.bool (zqy dt x.frm x.dst),cy,cz,cA,cB,cD,cG,cH,cI,cJ,cM,cN,cO,cP,cQ,cR,cT,cU,cW,cX,cY,cZ,da,dc,dd,de,df,dg,dh,di,dj,dm,du,dw,dx,dy,dz,dA],[]⟩ w'):
  (Code.region 18 ops false).wp prog Q ⟨#[u0,u1,u2,dv,u4,u5,u6,u7,u8,u9,gA,gC,gD,gE,gF,gG,gH,gI,gJ,.pointer (some ⟨g,0,none⟩),gL,gM,gN,gO,gP,gQ,gR,gT,gV,gW,gX,gY,gZ,i6,i7,i8,ia,ib,ic,ie,ig,ii,ij,ik,il,im,io,ip,iq,ir,iu,iv,iw,ix,iy,iz,iA,iB,iC,iD,iE,iF,iG,iH,iI,iJ,iK,iL,iM,iN,iO,iP,iQ,iR,iS,iT,iU,iV,iW,iX,iY,iZ,j0,j1,j2,j5,j6,j7,j8,j9,jb,jd,jf,jg,jh,ji,jj,jk,jl,jm,bE,bF,bG,bH,bI,bJ,bK,bL,bM,bN,bO,bP,bQ,bT,bU,bV,bW,bX,bY,bZ,cj,ck,cn,cx,cy,cz,cA,cB,cD,cG,cH,cI,cJ,cM,cN,cO,cP,cQ,cR,cT,cU,cW,cX,cY,cZ,da,dc,dd,de,df,dg,dh,di,dj,dm,du,dw,dx,dy,dz,dA],[]⟩ V:=by
 simp only[Tryz.f50,Option.bind_some,z0x] at hops
 simp at hops
 subst hops;have HQ:=hd_ hQ;have HI:=hd_ hI;have HB:=hd_ hB;have HDB:Hid (zqy dt x.frm x.dst=((decide (x.frm≠z2q) && decide (x.frm∈dt)) || (decide (x.dst≠z2q) && decide (x.dst∈dt)))):=hd_ rfl;generalize zqy dt x.frm x.dst=db at HQ HDB;obtain⟨-,-,-,z3,z4⟩:=z3w (x:=x) hB;have HI1:=hd_ (HI.out V x.frm (Below.refl _ _));have HI2:=hd_ (fun X (hX:zB V X)=>HI.out X x.dst hX);generalize hm1:decide (x.frm∈dt)=m1 at HI1 HDB;generalize hm2:decide (x.dst∈dt)=m2 at HI2 HDB;clear hQ hI hB hm1 hm2 HI;by_cases hf:x.frm=z2q
 ·obtain⟨s1,s2⟩:=z40 hf;rw[decide_eq_false (fun h=>h hf),Bool.false_and,Bool.false_or] at HDB;by_cases hd:x.dst=z2q
  ·obtain⟨t1,t2⟩:=z40 hd;rw[decide_eq_false (fun h=>h hd),Bool.false_and] at HDB;obtain rfl:=HDB.out
   clear hf hd;go_wp2_with fail;exact HQ.out _ _ _ _ _ _ _ _ _ _ _ _ _ _ _ _ _ _ _ _ (Below.refl _ _)
  ·obtain⟨t1,t2⟩:=z41 hd;rw[decide_eq_true hd,Bool.true_and] at HDB;obtain rfl:=HDB.out
   have HC:=hd_ (HI2.out V (Below.refl _ _));clear hf hd HDB;go_wp2_with fail;refine HC.out.mono ?_;rintro e w2 ⟨rfl,hb⟩;have H2:=hd_ hb;clear hb z3 z4;go_wp2_with fail;exact HQ.out _ _ _ _ _ _ _ _ _ _ _ _ _ _ _ _ _ _ _ _ H2.out
 ·obtain⟨s1,s2⟩:=z41 hf;rw[decide_eq_true hf,Bool.true_and] at HDB;clear hf;go_wp2_with fail;refine HI1.out.mono ?_;rintro e w2 ⟨rfl,hb⟩;have H2:=hd_ hb;have HB2:=hd_ (HB.out.below hb HB.out.lt);clear hb z3 z4;obtain⟨-,-,-,z3,z4⟩:=z3w (x:=x) HB2.out;cases m1
  ·rw[Bool.false_or] at HDB;by_cases hd:x.dst=z2q
   ·obtain⟨t1,t2⟩:=z40 hd;rw[decide_eq_false (fun h=>h hd),Bool.false_and] at HDB;obtain rfl:=HDB.out
    clear hd;go_wp2_with fail;exact HQ.out _ _ _ _ _ _ _ _ _ _ _ _ _ _ _ _ _ _ _ _ H2.out
   ·obtain⟨t1,t2⟩:=z41 hd;rw[decide_eq_true hd,Bool.true_and] at HDB;obtain rfl:=HDB.out
    have HC:=hd_ (HI2.out w2 H2.out);clear hd HDB;go_wp2_with fail;refine HC.out.mono ?_;rintro e w3 ⟨rfl,hb⟩;have H3:=hd_ (z0r H2.out hb);clear hb z3 z4;go_wp2_with fail;exact HQ.out _ _ _ _ _ _ _ _ _ _ _ _ _ _ _ _ _ _ _ _ H3.out
  ·rw[Bool.true_or] at HDB;obtain rfl:=HDB.out
   clear HI1;go_wp2_with fail;exact HQ.out _ _ _ _ _ _ _ _ _ _ _ _ _ _ _ _ _ _ _ _ H2.out
end
