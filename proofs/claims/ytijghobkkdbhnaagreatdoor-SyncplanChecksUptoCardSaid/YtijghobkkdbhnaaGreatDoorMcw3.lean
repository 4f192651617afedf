/- A part. -/
import Derived.Test.YtijghobkkdbhnaaGreatDoorMcw2
import Derived.Test.YtijghobkkdbhnaaGreatDoorMyShelf
import Derived.Deep.DeepCutAuto
import Derived.Deep.RegionLaw
import Derived.Sort.LotA
import Derived.Shelf.SlSortCmp.KitK
import Derived.Lib.QuietBelow
set_option linter.unusedVariables false
set_option linter.unusedSimpArgs false
set_option maxHeartbeats 1000000
namespace Go.Proofs.YtijghobkkdbhnaaGreatDoor
open Go.Proofs.Tryz
open Go.RowKit
theorem z0n {w w':World}{B:Nat}{e:TypeId}{k:Nat}{v:Value}{n:Nat}{xs:List Value}(h:w.ownsRow B e k v n xs)(hb:zB w w'):w'.ownsRow B e k v n xs:=by
 refine⟨h.1,?_⟩;rcases h.2 with⟨e1,e2⟩ | ⟨g,cap,cur,e1,h1,hg,rest⟩
 ·exact .inl ⟨e1,e2⟩
 ·exact .inr ⟨g,cap,cur,e1,h1,(hb.block g (Array.getElem?_eq_some_iff.1 hg).1).trans hg,rest⟩
theorem z0o {w:World}{B:Nat}{e:TypeId}{k:Nat}{v:Value}{n:Nat}{xs:List Value}(h:w.ownsRow B e k v n xs):∃ A c,v=.slice A n c:=by
 rcases h.2 with⟨e1,e2⟩ | ⟨g,cap,cur,e1,_⟩
 ·exact⟨none,0,by rw[e1,e2]⟩
 ·exact⟨_,cap,e1⟩
theorem z0p {B:Nat}{a w:World}(h:Below B a w)(n:Nat):Below B a (w.drewN n):=⟨h.os,h.tape,h.output,h.size,h.block⟩
theorem z0q {B:Nat}{a w w':World}(h:Below B a w)(hB:B≤w.heap.size)(h2:zB w w'):Below B a w':=h.trans (h2.mono hB)
theorem z0r {w w1 w2:World}(h1:zB w w1)(h2:zB w1 w2):zB w w2:=h1.trans (h2.mono h1.size)
theorem box4 {w:World}{g:Nat}{e:TypeId}{a b c d:Value}(h:Blk w g e [a,b,c,d]):
  w.cell? ⟨g,0,none⟩=some a∧w.cell? ⟨g,1,none⟩=some b∧w.cell? ⟨g,2,none⟩=some c∧w.cell? ⟨g,3,none⟩=some d ∧
  w.frozen? ⟨g,0,none⟩=false∧w.frozen? ⟨g,1,none⟩=false∧w.frozen? ⟨g,2,none⟩=false∧w.frozen? ⟨g,3,none⟩=false:=
 ⟨h.cell 0,h.cell 1,h.cell 2,h.cell 3,h.frozen 0,h.frozen 1,h.frozen 2,h.frozen 3⟩
theorem z0s {w:World}{B:Nat}{e:TypeId}{k:Nat}{v:Value}{n:Nat}{xs:List Value}(h:w.ownsRow B e k v n xs)(hn:0<n):∃ g c,v=.slice (some ⟨g,0,none⟩) n c:=by
 rcases h.2 with⟨e1,e2⟩ | ⟨g,cap,cur,e1,_⟩
 ·omega
 ·exact⟨_,cap,e1⟩
theorem z0t {P:Program}{W:World}{ops:Array Oper}{o:Oper}{a:Act}{K:Act→World→Prop}{Q:Exit→Act→World→Prop}{E:Prop}(hgd:o.guard=none){s x:Operand}{t:TypeId}
  (ho:o.op=.call { callee:=.builtin .append,args:=#[s,x],argTypes:=#[t,t] })
  {e:TypeId} {size bytes base:Nat} (he:z0e P t e size bytes) {v:Value} {n:Nat} {xs:List Value} (hown:W.ownsRow base e size v n xs) (hs:a.eval s=v)
  {u:Value} {m:Nat} {news:List Value} (hr:Row W size u m news) (hx:a.eval x=u) (h1:∀ u∈news,u.oneCell'=true) (hbytes:(n+m) * bytes≤140737488355328) (h63:n+m≤maxLen) (hbase:base≤W.heap.size)
  (h:∀ A' c' w',w'.ownsRow base e size (.slice A' (n+m) c') (n+m) (xs++news)→W.grownBy w' v.ownBlock →
   ((Value.slice A' (n+m) c').ownBlock=v.ownBlock∨(Value.slice A' (n+m) c').ownBlock=some W.heap.size)→K (a.put o.dst (.slice A' (n+m) c')) w'):
  if Region.wanted o (yielded ops a.tmps)=true then Oper.wp P o a W K Q else E:=by
 have hw:Region.wanted o (yielded ops a.tmps)=true:=by simp [Region.wanted,hgd]
 rw[if_pos hw];obtain⟨A',c',w',hrun,h2,h3,h4⟩:=z0h (ty:=o.type) he hown hr h1 hbytes h63 hbase;unfold Oper.wp execOp;simp only[ho,resolve,invoke,builtin,Sem.run_bind,Sem.run_pure,Result.andThen_ok,List.map_toArray,List.map_cons,List.map_nil,hs,hx,hrun]
 exact h A' c' w' h2 h3 h4
theorem z0u {a w:World}(h:zB a w)(o:Obj):zB a (w.alloc o):=h.alloc h.size o
theorem Blk.below' {w w':World}{g:Nat}{e:TypeId}{cs:List Value}(h:Blk w g e cs)(hb:zB w w'):Blk w' g e cs:=h.below hb h.lt
theorem Blk.drew' {w:World}{g:Nat}{e:TypeId}{cs:List Value}(h:Blk w g e cs):Blk w.drew g e cs:=h
theorem z0v {w:World}{B:Nat}{e:TypeId}{k:Nat}{v:Value}{n:Nat}{xs:List Value}(h:w.ownsRow B e k v n xs)(o:Obj):(w.alloc o).ownsRow B e k v n xs:=z0n h ((Below.refl _ _).alloc (Nat.le_refl _) _)
theorem z0w {w:World}{g:Nat}{cs:List Value}{e:TypeId}(hg:g=w.heap.size):Blk (w.alloc (.cells cs.toArray e)) g e cs:=by rw[hg];exact z0l w cs e
def z0x (n:Nat):Code→Option (Array Oper)
 | .region i ops _=>if i=n then some ops else none
 | .seq a b=>(z0x n a).or (z0x n b)
 | .cond _ a b=>(z0x n a).or (z0x n b)
 | .block _ a=>z0x n a
 | .loop a=>z0x n a
 | _=>none
theorem z4v {w:World}{base base':Nat}{e:TypeId}{size n:Nat}{v:Value}{xs:List Value}(h:w.ownsRow base e size v n xs)(hb:base'≤base):w.ownsRow base' e size v n xs:=by
 obtain⟨h1,h2 | ⟨g,cap,cur,e1,h3,h4⟩⟩:=h
 ·exact⟨h1,.inl h2⟩
 ·exact⟨h1,.inr ⟨g,cap,cur,e1,Nat.le_trans hb h3,h4⟩⟩
theorem z4w {w w':World}{base:Nat}{e:TypeId}{size n:Nat}{v:Value}{xs:List Value}{row:Option Nat}(h:w.ownsRow base e size v n xs)(hg:w.grownBy w' row)(hne:∀ x,v.ownBlock=some x→row≠some x):w'.ownsRow base e size v n xs:=by
 obtain⟨h1,h2 | ⟨g,cap,cur,e1,h3,h4,h5⟩⟩:=h
 ·exact⟨h1,.inl h2⟩
 ·exact⟨h1,.inr ⟨g,cap,cur,e1,h3,by rw[hg.block g (Array.getElem?_eq_some_iff.1 h4).1 (fun e=>hne g (by rw[e1];rfl) e.symm)];exact h4,h5⟩⟩
theorem z4x {w:World}{base:Nat}{e:TypeId}{size n:Nat}{v:Value}{xs:List Value}(h:w.ownsRow base e size v n xs){p:Addr}(hne:v.ownBlock≠some p.block)(u:Value):(w.setCell p u).ownsRow base e size v n xs:=by
 obtain⟨h1,h2 | ⟨g,cap,cur,e1,h3,h4,h5⟩⟩:=h
 ·exact⟨h1,.inl h2⟩
 ·exact⟨h1,.inr ⟨g,cap,cur,e1,h3,by rw[Below.heap_setCell w p u g (fun e=>hne (by rw[e1,← e];rfl))];exact h4,h5⟩⟩
def Env (w:World):Prop:=∃ m:Int,w.cell? ⟨0,0,none⟩=some (.int .i64 m)
theorem Env.below {w w':World}(h:Env w)(hb:zB w w'):Env w':=by
 obtain⟨m,hm⟩:=h;exact⟨m,(hb.cell (p:=⟨0,0,none⟩) (z03 hm)).trans hm⟩
theorem Env.alloc {w:World}(h:Env w)(o:Obj):Env (w.alloc o):=h.below ((Below.refl _ _).alloc (Nat.le_refl _) _)
def baL (p:List UInt8):ByteArray:=⟨p.toArray⟩
def z6x (ps:List (List UInt8)):List Value:=ps.map fun p=>.string (baL p)
theorem z6y (p:List UInt8):(baL p).data.toList=p:=rfl
theorem z6z (p:List UInt8):(baL p).size=p.length:=by simp [baL,ByteArray.size]
theorem z71 (s p body:ByteArray)(w:World)(h:Lib.hasPrefix s.data.toList p.data.toList=true)(hb:body.data.toList=s.data.toList.drop p.data.toList.length):
  Calls prog 247 #[.string s,.string p] w fun e w'=>e=.returned (.tuple #[.string body,.bool true])∧w=w':=by
 refine (Tryz.strings_CutPrefix s p w).mono ?_;rintro e w' ⟨rfl,rfl⟩;rw[h];have:(⟨(Lib.trimPrefix s.data.toList p.data.toList).toArray⟩:ByteArray)=body:=z1r (by rw[hb];unfold Lib.trimPrefix;rw[h];rfl)
 rw[this];exact⟨rfl,rfl⟩
theorem cutP_no (s p:ByteArray)(w:World)(h:Lib.hasPrefix s.data.toList p.data.toList=false):
  Calls prog 247 #[.string s,.string p] w fun e w'=>e=.returned (.tuple #[.string s,.bool false])∧w=w':=by
 refine (Tryz.strings_CutPrefix s p w).mono ?_;rintro e w' ⟨rfl,rfl⟩;rw[h];have:(⟨(Lib.trimPrefix s.data.toList p.data.toList).toArray⟩:ByteArray)=s:=z1r (by unfold Lib.trimPrefix;rw[h];rfl)
 rw[this];exact⟨rfl,rfl⟩
theorem z73 (s:ByteArray)(w:World)(he:Env w)(hs:s.size<4294967281):
  Calls prog 226 #[.string s,.string ⟨#[47]⟩] w fun e w' =>
   e=.returned (.slice (some ⟨w.heap.size,0,none⟩) (z1f s.data.toList).length (z1f s.data.toList).length)∧w.alloc (.cells (z6x (z1f s.data.toList)).toArray 9)=w':=by
 obtain⟨m,hm⟩:=he;refine (Tryz.strings_Split s ⟨#[47]⟩ m w hs hm (by decide)).mono ?_
 rintro e w' ⟨rfl,rfl⟩;rw[z1t,z1s];exact⟨rfl,by unfold z6x;rw[List.map_map];rfl⟩
theorem Blk.strs {w:World}{g:Nat}{ps:List (List UInt8)}(h:Blk w g 9 (z6x ps))(k:Nat)(hk:k<ps.length):w.cell? ⟨g,k,none⟩=some (.string (baL ps[k])):=by
 rw[h.cell];simp [z6x,hk]
theorem z74 (s:ByteArray)(least:Nat)(ps:List (List UInt8))(w:World)(he:Env w)(hs:s.size≤2000000)(hl:least≤2)(h:z2v s.data.toList least=some ps):
  Calls prog 227 #[.string s,.int .i64 least] w fun e w'=>e=.returned (.tuple #[.slice (some ⟨w.heap.size,0,none⟩) ps.length ps.length,.bool true])∧w.alloc (.cells (z6x ps).toArray 9)=w':=by
 unfold z2v at h;split at h
 ·rename_i hc
  obtain⟨h1,h2,h3⟩:=hc;injection h with h
  have hbl:(baL (s.data.toList.drop 2)).size≤2000000:=by rw[z6z,List.length_drop];have:s.data.toList.length=s.size:=rfl;omega
  have hmem:∀ p∈ps,z0z p=true∧p.length≤2000000:=fun p hp=>by
   rw[← h] at hp;exact⟨List.all_eq_true.1 h3 p hp,by have:=(z1j hp).2;rw[z6z] at hbl;omega⟩
  have HS:=hd_ (z73 (baL (s.data.toList.drop 2)) w he (by omega))
  have HP:=hd_ (z71 s ⟨#[47,47]⟩ (baL (s.data.toList.drop 2)) w h1 rfl);rw[z6y,h] at HS;rw[h] at h2;have hlen:ps.length≤2000001:=by rw[← h];have:=z1l (s.data.toList.drop 2);rw[z6z] at hbl;omega
  have HM:=hd_ hmem;have hd2:decide (ps.length<least)=false:=by simp;omega
  have hd3:decide ((ps.length:Int)<(least:Int))=false:=by simp;omega
  have HB:=hd_ (z0l w (z6x ps) 9);clear h h1 h3 hmem;generalize w.alloc (.cells (z6x ps).toArray 9)=W at HS HB ⊢;go_enter func227,ntmps227;go_wp2_with fail;refine HP.out.mono ?_;rintro e w' ⟨rfl,rfl⟩;go_wp2_with fail;refine HS.out.mono ?_;rintro e w' ⟨rfl,rfl⟩;go_wp2
  go_loop [26] (fun i=>∃ k:Nat,k≤ps.length∧i=.int .i64 k) (fun i=>ps.length - (intOf i).toNat)
  case atStart=>exact⟨0,Nat.zero_le _,rfl⟩
  case round =>
   obtain⟨k,hk,rfl⟩:=hrel;by_cases hlt:k<ps.length
   ·have hcell:=HB.out.strs k hlt;obtain⟨hc1,hc2⟩:=HM.out ps[k] (by simp)
    have hcs:z12 (baL ps[k])=true:=hc1;go_wp2_with (go_at_call 127;refine (z1e _ _ (by rw[z6z];unfold maxLen;omega)).mono ?_;rintro e w' ⟨rfl,rfl⟩)
    go_round
    case rel=>exact⟨k+1,by omega,by go_num⟩
    case measure=>simp [intOf];omega
   ·go_wp2
    go_ret2;exact⟨rfl,rfl⟩
 ·cases h
theorem z77 {α:Type}(ps:List α)(f:α→Bool)(k:Nat)(hk:k<ps.length)(h:(ps.take k).all f=true)(hf:f ps[k]=true):(ps.take (k+1)).all f=true:=by
 rw[List.take_succ_eq_append_getElem hk,List.all_append,h];simp [hf]
theorem z78 (s:ByteArray)(least:Nat)(w:World)(he:Env w)(hs:s.size≤2000000)(h:z2v s.data.toList least=none):
  Calls prog 227 #[.string s,.int .i64 least] w fun e w'=>e=.returned (.tuple #[.slice none 0 0,.bool false])∧zB w w':=by
 cases h1:Lib.hasPrefix s.data.toList [47,47]
 ·have HP:=hd_ (cutP_no s ⟨#[47,47]⟩ w h1);clear h h1;go_enter func227,ntmps227;go_wp2_with fail;refine HP.out.mono ?_;rintro e w' ⟨rfl,rfl⟩;go_wp2
  go_ret2;exact⟨rfl,Below.refl _ _⟩
 ·have hbl:(baL (s.data.toList.drop 2)).size≤2000000:=by rw[z6z,List.length_drop];have:s.data.toList.length=s.size:=rfl;omega
  have HS:=hd_ (z73 (baL (s.data.toList.drop 2)) w he (by omega))
  have HP:=hd_ (z71 s ⟨#[47,47]⟩ (baL (s.data.toList.drop 2)) w h1 rfl);rw[z6y] at HS;have hmem:∀ p∈z1f (s.data.toList.drop 2),p.length≤2000000:=fun p hp=>by
   have:=(z1j hp).2;rw[z6z] at hbl;omega
  have hlen:(z1f (s.data.toList.drop 2)).length≤2000001:=by have:=z1l (s.data.toList.drop 2);rw[z6z] at hbl;omega
  have hno:¬(least≤(z1f (s.data.toList.drop 2)).length∧(z1f (s.data.toList.drop 2)).all z0z=true):=fun hc=>by
   unfold z2v at h;rw[if_pos ⟨h1,hc⟩] at h;cases h
  clear h h1;generalize z1f (s.data.toList.drop 2)=ps at HS hmem hlen hno;have HB:=hd_ (z0l w (z6x ps) 9);have HM:=hd_ hmem;have hbw:zB w (w.alloc (.cells (z6x ps).toArray 9)):=(Below.refl _ _).alloc (Nat.le_refl _) _;clear hmem;by_cases h2:least≤ps.length
  ·have hd2:decide (ps.length<least)=false:=by simp;omega
   have hd3:decide ((ps.length:Int)<(least:Int))=false:=by simp;omega
   have hno':ps.all z0z=false:=by cases hh:ps.all z0z;rfl;exact absurd ⟨h2,hh⟩ hno
   have HN:=hd_ hno';clear hno hno';generalize w.alloc (.cells (z6x ps).toArray 9)=W at HS HB hbw;go_enter func227,ntmps227;go_wp2_with fail;refine HP.out.mono ?_;rintro e w' ⟨rfl,rfl⟩;go_wp2_with fail;refine HS.out.mono ?_;rintro e w' ⟨rfl,rfl⟩;go_wp2
   go_loop [26] (fun i=>∃ k:Nat,k≤ps.length∧i=.int .i64 k∧(ps.take k).all z0z=true) (fun i=>ps.length - (intOf i).toNat)
   case atStart=>exact⟨0,Nat.zero_le _,rfl,rfl⟩
   case round =>
    obtain⟨k,hk,rfl,hall⟩:=hrel;have HA:=hd_ hall;clear hall;by_cases hlt:k<ps.length
    ·have hcell:=HB.out.strs k hlt;have hc2:=HM.out ps[k] (by simp)
     cases hc1:z0z ps[k]
     ·have hcs:z12 (baL ps[k])=false:=hc1;clear hc1;go_wp2_with (go_at_call 127;refine (z1e _ _ (by rw[z6z];unfold maxLen;omega)).mono ?_;rintro e w' ⟨rfl,rfl⟩)
      go_ret2;exact⟨rfl,hbw⟩
     ·have hcs:z12 (baL ps[k])=true:=hc1;have HC:=hd_ hc1;clear hc1;go_wp2_with (go_at_call 127;refine (z1e _ _ (by rw[z6z];unfold maxLen;omega)).mono ?_;rintro e w' ⟨rfl,rfl⟩)
      go_round
      case rel=>exact⟨k+1,by omega,by go_num,z77 ps z0z k hlt HA.out HC.out⟩
      case measure=>simp [intOf];omega
    ·have:=HA.out;rw[List.take_of_length_le (by omega),HN.out] at this
     cases this
  ·have hd2:decide (ps.length<least)=true:=by simp;omega
   have hd3:decide ((ps.length:Int)<(least:Int))=true:=by simp;omega
   clear hno;generalize w.alloc (.cells (z6x ps).toArray 9)=W at HS HB hbw;go_enter func227,ntmps227;go_wp2_with fail;refine HP.out.mono ?_;rintro e w' ⟨rfl,rfl⟩;go_wp2_with fail;refine HS.out.mono ?_;rintro e w' ⟨rfl,rfl⟩;go_wp2
   go_ret2;exact⟨rfl,hbw⟩
theorem z79 (s:ByteArray)(ps:List (List UInt8))(w:World)(he:Env w)(hs:s.size≤2000000)(h:z2v s.data.toList 2=some ps):
  Calls prog 189 #[.string s] w fun e w'=>e=.returned (.tuple #[.slice (some ⟨w.heap.size,0,none⟩) ps.length ps.length,.int .i64 0])∧w.alloc (.cells (z6x ps).toArray 9)=w':=by
 have H:=hd_ (z74 s 2 ps w he hs (by omega) h)
 generalize w.alloc (.cells (z6x ps).toArray 9)=W at H ⊢;clear h he;go_enter func189,ntmps189;go_wp2_with fail;refine H.out.mono ?_;rintro e w' ⟨rfl,rfl⟩;go_wp2
 go_ret2;exact⟨rfl,rfl⟩
theorem z7a (s:ByteArray)(w:World)(he:Env w)(hs:s.size≤2000000)(h:z2v s.data.toList 2=none):
  Calls prog 189 #[.string s] w fun e w'=>e=.returned (.tuple #[.slice none 0 0,.int .i64 20])∧zB w w':=by
 have H:=hd_ (z78 s 2 w he hs h);clear h he;go_enter func189,ntmps189;go_wp2_with fail;refine H.out.mono ?_;rintro e w' ⟨rfl,hb⟩;go_wp2
 go_ret2;exact⟨rfl,hb⟩
open Go.RowKit Go.Lib
open Go.Sort hiding Below
section
variable {P : Program} {α : Type} [Inhabited α] {enc : α → List Value} {k : Nat} {e : TypeId} {w0 W W' : World} {blk off C : Nat} {d : Array α}
structure SB (enc:α→List Value)(k:Nat)(e:TypeId)(w0:World)(blk off C:Nat)(d:Array α)(W:World):Prop where
 hold:HoldsK enc k W blk off d
 own:∃ cur:Array Value,W.heap[blk]? = some (.cells cur e (0,0))∧cur.size=C
 gr:w0.grownBy W (some blk)
theorem SB.lt (h:SB enc k e w0 blk off C d W):blk<W.heap.size:=by
 obtain⟨cur,h1,-⟩:=h.own;exact (Array.getElem?_eq_some_iff.1 h1).1
theorem SB.below (h:SB enc k e w0 blk off C d W)(hb:Go.RowKit.Below W.heap.size W W'):SB enc k e w0 blk off C d W':=by
 have hl:=h.lt;refine⟨fun j hj=>?_,?_,?_⟩
 ·obtain⟨h1,h2⟩:=h.hold j hj;exact⟨(hb.cell (p:=⟨blk,off+j,none⟩) hl).trans h1,(hb.frozen (p:=⟨blk,off+j,none⟩) hl).trans h2⟩
 ·rw[hb.block blk hl];exact h.own
 ·exact⟨hb.os.trans h.gr.os,hb.tape.trans h.gr.tape,hb.output.trans h.gr.output,Nat.le_trans h.gr.size hb.size,fun j hj hne=>(hb.block j (Nat.lt_of_lt_of_le hj h.gr.size)).trans (h.gr.block j hj hne)⟩
theorem SB.drew (h:SB enc k e w0 blk off C d W):SB enc k e w0 blk off C d W.drew:=h.below (Below.refl _ _).drew
end
def zhf (n:Nat):Code→Bool
 | .region i _ _=>i == n
 | .seq a b=>zhf n a || zhf n b
 | .cond _ a b=>zhf n a || zhf n b
 | .block _ a=>zhf n a
 | .loop a=>zhf n a
 | _=>false
def zhg (n:Nat):Code→Option Code
 | .seq a b=>if zhf n a then some (.seq a b) else zhg n b
 | c=>if zhf n c then some c else none
