/- A part of the proof. -/
import Derived.Test.YtegeboijhifmcaaGreatDoorMgs32
import Derived.Test.YtegeboijhifmcaaGreatDoorMgs39
import Derived.Test.YtegeboijhifmcaaGreatDoorMgs38
import Derived.Test.YtegeboijhifmcaaGreatDoorMgs37
set_option linter.unusedVariables false
set_option linter.unusedSimpArgs false
set_option maxHeartbeats 8000000
set_option maxRecDepth 100000
namespace Go.Proofs.YtegeboijhifmcaaGreatDoor
open Go.Proofs.Tryz
open Go.RowKit
open Go.Sort (grow)
def ReO (w wr:World)(hs:List Hav)(ss:List Syn)(k:Nat)(A:Option Addr)(c n:Nat):Prop:=
 ∃(O:List Hav) (ps:List Syn) (v:Value),n=ps.length∧z4z w (.slice A n c) ps∧(∀ x∈ps,x∈ss)∧ps.length≤ss.length∧Aft w wr w.heap.size O v∧O++z4y (hs.drop k) ps=z4y hs ss
structure ReI (w wr:World)(hs:List Hav)(ss:List Syn)(k g:Nat)(h:Hav)(O:List Hav)(ps:List Syn)(v:Value):Prop where
 aft:Aft w wr w.heap.size O v
 box:Blk wr g 44 [.string h.path,.int .i64 h.num,.string h.loc]
 off:v.ownBlock≠some g
 gne:g≠w.heap.size
 len:ps.length≤ss.length
 eq:O++zjc h (hs.drop (k+1)) ps=z4y hs ss
theorem ReI.under {w wr X:World}{hs:List Hav}{ss:List Syn}{k g:Nat}{h:Hav}{O:List Hav}{ps:List Syn}{v:Value}(H:ReI w wr hs ss k g h O ps v)(hb:Below wr.heap.size wr X):ReI w X hs ss k g h O ps v:=
 ⟨H.aft.under hb,H.box.below hb H.box.lt,H.off,H.gne,H.len,H.eq⟩
theorem ReI.pop0 {w wr:World}{hs:List Hav}{ss:List Syn}{k g:Nat}{h:Hav}{O:List Hav}{x:Syn}{r:List Syn}{v:Value}(H:ReI w wr hs ss k g h O (x :: r) v)(hc:z2u x.path h.path<0)(hp:z4t x=[]):ReI w wr hs ss k g h O r v:=
 ⟨H.aft,H.box,H.off,H.gne,by have:=H.len;rw[List.length_cons] at this;omega,by rw[← H.eq,zjd hc,hp];rfl⟩
theorem ReI.pop1 {w wr w3:World}{hs:List Hav}{ss:List Syn}{k g:Nat}{h:Hav}{O:List Hav}{x:Syn}{r:List Syn}{v v3:Value}(H:ReI w wr hs ss k g h O (x :: r) v)(hc:z2u x.path h.path<0)(hp:z4t x=z4s x)
  (hA:Aft w w3 w.heap.size (O++z4s x) v3) (hK:Kp w.heap.size wr w3 v v3):ReI w w3 hs ss k g h (O++z4s x) r v3:=by
 obtain⟨b1,b2⟩:=hK.blk H.box H.gne H.off;exact⟨hA,b1,b2,H.gne,by have:=H.len;rw[List.length_cons] at this;omega,by rw[← H.eq,zjd hc,hp,List.append_assoc]⟩
theorem ReI.room {w wr:World}{hs:List Hav}{ss:List Syn}{k g:Nat}{h:Hav}{O:List Hav}{ps:List Syn}{v:Value}(H:ReI w wr hs ss k g h O ps v)(hl:hs.length+ss.length+1≤1000000):(O.length+1) * 40≤140737488355328:=
 zjk H.eq (zjj hs ss) hl
theorem zjl (hs:List Hav)(ss:List Syn)(hv pv:Value)(w:World)(hH:z4b w hv hs)(hS:z4z w pv ss)(hz:∀ x∈hs,x.path.size≤1000000)(hz2:∀ x∈ss,x.path.size≤1000000)(hl:hs.length+2 * ss.length+1≤1000000):
  Calls prog 39 #[hv,pv] w fun e w'=>∃ v,e=.returned v∧z4b w' v (z4y hs ss)∧Below w.heap.size w w':=by
 obtain⟨Ah,ch,rfl,-⟩:=id hH;obtain⟨A1,c1,rfl,-⟩:=id hS;have hO:ReO w (w.alloc (.cells #[.slice none 0 0] 28)) hs ss 0 A1 c1 ss.length:=⟨[],ss,.slice none 0 0,rfl,hS,fun _ h=>h,Nat.le_refl _,⟨(Below.refl _ _).alloc (Nat.le_refl _) _,z0l w [.slice none 0 0] _,World.ownsRow_nil _ _ _ _⟩,rfl⟩;have HO:=hd_ hO;have HH:=hd_ hH;have HZ:=hd_ hz;have HZ2:=hd_ hz2;have HL:=hd_ hl;have hkb:hs.length≤1000000:=by omega
 have HL2:=hd_ (show hs.length+ss.length+1≤1000000 by omega)
 clear hH hS hz hz2 hl hO;go_enter func39,ntmps39;go_wp2_with fail;go_loopw [1,14] (fun p i wr=>∃(k:Nat) (A:Option Addr) (c n:Nat),k≤hs.length∧p=.slice A n c∧i=.int .i64 k∧Hid (ReO w wr hs ss k A c n)) (fun _ i _=>hs.length - (intOf i).toNat)
 case atStart=>exact⟨0,A1,c1,ss.length,Nat.zero_le _,rfl,rfl,HO⟩
 case round =>
  obtain⟨k,A,c,n,hk,rfl,rfl,HI⟩:=hrel;rename ∀ a w,Code.wp _ (Code.seq (Code.seq (Code.region 17 _ _) _) _) _ a w→_=>hkk
  have HKK:=hd_ hkk;clear hkk;obtain⟨O,ps,v,rfl,hps,hmem,hpl,hA,heq⟩:=HI.out;by_cases hlt:k<hs.length
  ·obtain⟨ad,rfl,hab,y0,y1,y2⟩:=z4b.at_ (HH.out.below hA.bel) hlt;have hzk:=HZ.out hs[k] (List.getElem_mem _);rw[List.drop_eq_getElem_cons hlt] at heq;generalize hs[k]=h at y0 y1 y2 heq hzk;have HP:=hd_ hps;have HX0:Hid (ReI w (wr.alloc (.cells #[.string h.path,.int .i64 h.num,.string h.loc] 44)) hs ss k wr.heap.size h O ps v):=hd_ ⟨hA.alloc _,z0l wr [.string h.path,.int .i64 h.num,.string h.loc] _,fun e=>by have:=(hA.row.lt _ e).2;omega,by have:=hA.box.lt;omega,hpl,heq⟩
   clear hps hA heq HI HO;go_wp2_with fail;clear y0 y1 y2 hab;generalize wr.heap.size=g at HX0 ⊢;go_loopw [1] (fun p wq=>∃(A:Option Addr) (c n:Nat) (O:List Hav) (ps:List Syn) (v:Value),p=.slice A n c∧n=ps.length∧Hid (z4z w (.slice A n c) ps)∧(∀ x∈ps,x∈ss)∧Hid (ReI w wq hs ss k g h O ps v)) (fun p _=>ziv p)
   case atStart=>exact⟨A,c,ps.length,O,ps,v,rfl,rfl,HP,hmem,HX0⟩
   case round =>
    obtain⟨A,c,n,O,ps,v,rfl,hn,HP2,hmem2,HR⟩:=hrel;cases ps with
    | nil =>
     have hn':n=0:=hn;have n0:decide (0<n)=false:=by simp;omega
     have HN:=hd_ hn';clear hn hn';go_wp2_with fail;refine wp_region_quiet_below (by kernel_rfl) (by kernel_rfl) ?_
     repeat (first | go_big_quiet_step (fail) | quiet_step (fail))
     refine wpQuiet_nil ?_;intro _ hw9;obtain⟨⟨dq,osq⟩,hw9⟩:=hw9;subst hw9;have HR1:=hd_ (HR.out.under (below_regrown wr dq osq));generalize grow (redrawn wr dq) osq=W1 at HR1 ⊢;go_wp2_with fail;refine wp_region_quiet_below (by kernel_rfl) (by kernel_rfl) ?_
     repeat (first | go_big_quiet_step (fail) | quiet_step (fail))
     refine wpQuiet_nil ?_;intro _ hw9;obtain⟨⟨dq,osq⟩,hw9⟩:=hw9;subst hw9;have HR2:=hd_ (HR1.out.under (below_regrown W1 dq osq));generalize grow (redrawn W1 dq) osq=W2 at HR2 ⊢;have HA2:=hd_ (HR2.out.aft.alloc (.cells #[.string h.path,.int .i64 h.num,.string h.loc] 44));have hbx:W2.cell? ⟨w.heap.size,0,none⟩=some v:=HR2.out.aft.box.cell 0;obtain⟨d0,d1,d2⟩:=z3s (x:=h) HR2.out.box;have hrm:=HR2.out.room HL2.out;have hrow:=z0i W2 [.string h.path,.int .i64 h.num,.string h.loc] 44 3 1 rfl (by unfold maxLen;omega) W2.heap.size rfl
     have hsz:w.heap.size+1≤(W2.alloc (.cells #[.string h.path,.int .i64 h.num,.string h.loc] 44)).heap.size:=by have:=HR2.out.aft.box.lt;simp;omega
     obtain⟨A0,c0,rfl⟩:=z0o HR2.out.aft.row;go_wp2_with (at_builtin;refine z0j rfl rfl z54 HA2.out.row rfl hrow rfl (z55 h) hrm (by unfold maxLen;omega) hsz ?_;intro A' c' w2 hown hgr hob;obtain⟨hA3,hK3⟩:=HA2.out.push (x:=h) hown hgr hob;have hbw:=Blk.grown HA2.out.box hgr (fun e=>by have:=(HA2.out.row.lt w.heap.size e.symm).1;omega);have hfz:=hbw.frozen 0;have hcl:w2.cell? ⟨w.heap.size,0,none⟩=some (.slice A0 O.length c0):=hbw.cell 0)
     go_roundw
     case rel=>exact⟨k+1,A,c,n,by omega,rfl,by go_num,hd_ ⟨O++[h],[],_,HN.out,HP2.out,fun _ h=>(by cases h),Nat.zero_le _,hA3,by rw[← HR2.out.eq,zje,List.append_assoc];rfl⟩⟩
     case measure=>simp [intOf];omega
    | cons x r =>
     obtain rfl:n=r.length+1:=hn
     obtain⟨-,ad2,rfl,-,-⟩:=HP2.out.head;have HT2:=hd_ HP2.out.tail2;have hxs:=(HZ2.out x (hmem2 x List.mem_cons_self));have HMR:Hid (∀ z∈r,z∈ss):=hd_ (fun z hz=>hmem2 z (List.mem_cons_of_mem _ hz));have HX0X:Hid (x∈ss):=hd_ (hmem2 x List.mem_cons_self);have HLE:Hid (r.length≤ss.length):=hd_ (by have:=HR.out.len;rw[List.length_cons] at this;omega)
     have HSY:Hid (∀ X,Below w.heap.size w X→z50 X ad2 x):=hd_ (fun X hX=>by
      obtain⟨-,ad3,e3,-,h3⟩:=(HP2.out.below hX).head;injection e3 with e3
      subst e3;exact h3)
     have hz0:(0:Int)<((r.length+1:Nat):Int):=by omega
     obtain⟨s0,s1,s2,s3,s4⟩:=HSY.out wr (HR.out.aft.bel);have e1:=cell_regrown s1;have b0:=cell_regrown (z3s (x:=h) HR.out.box).1;have HCMP:=hd_ (fun X=>z41 x.path h.path X (by omega) (by omega))
     have cC:∀ d os,Calls prog 45 #[.string x.path,.string h.path] (grow (redrawn wr d) os) fun e w''=>e=.returned (.int .i64 (z2u x.path h.path))∧∃ p:Regrown,w''=grow (redrawn wr p.d) p.os:=fun d os=>Calls.regrown_of ((HCMP.out (grow (redrawn wr d) os)).mono (by rintro e w5 ⟨rfl,n5,rfl⟩;exact⟨rfl,zqq _ _⟩))
     generalize hcv:z2u x.path h.path=cv at cC;by_cases hlc:cv<0
     ·have n2:decide (cv<0)=true:=decide_eq_true hlc;have HLC:Hid (z2u x.path h.path<0):=hd_ (by rw[hcv];exact hlc)
      clear hcv hlc s0 s1 s2 s3 s4;go_wp2_with fail;refine wp_region_quiet_below (by kernel_rfl) (by kernel_rfl) ?_
      repeat (first | go_big_quiet_step (exact cC _ _) | quiet_step (exact cC _ _))
      refine wpQuiet_nil ?_;intro _ hw9;obtain⟨⟨dq,osq⟩,hw9⟩:=hw9;subst hw9;have HR1:=hd_ (HR.out.under (below_regrown wr dq osq));generalize grow (redrawn wr dq) osq=W1 at HR1 ⊢;clear e1 b0 cC n2;obtain⟨s0,s1,s2,s3,s4⟩:=HSY.out W1 (HR1.out.aft.bel);have HST:=hd_ (z3u x W1);cases hst:z3o x.kind with
      | true =>
       have HPU:Hid (z4t x=[]):=hd_ (by unfold z4t;rw[hst];rfl)
       rw[hst] at HST;clear hst;go_wp2_with fail;refine HST.out.mono ?_;rintro e w5 ⟨rfl,hb⟩;have HR2:=hd_ (HR1.out.under hb);clear hb;clear s0 s1 s2 s3 s4;go_wp2_with fail;go_roundw
       case rel=>exact⟨_,_,_,O,r,v,rfl,rfl,HT2,HMR.out,hd_ (HR2.out.pop0 HLC.out HPU.out)⟩
       case measure=>first | (simp [ziv];done) | (simp [ziv];omega)
      | false =>
       have HPU:Hid (z4t x=z4s x):=hd_ (by unfold z4t;rw[hst];rfl)
       rw[hst] at HST;clear hst;go_wp2_with fail;refine HST.out.mono ?_;rintro e w5 ⟨rfl,hb⟩;have HR2:=hd_ (HR1.out.under hb);clear hb;clear s0 s1 s2 s3 s4;obtain⟨s0,s1,s2,s3,s4⟩:=HSY.out w5 (HR2.out.aft.bel);have HAD:=hd_ (z58 x w w5 w.heap.size _ v HR2.out.aft (HR2.out.room HL2.out));go_wp2_with fail;refine HAD.out.mono ?_;rintro e w6 ⟨rfl,v6,h6,k6⟩;have HR3:=hd_ (HR2.out.pop1 HLC.out HPU.out h6 k6);clear h6 k6;clear s0 s1 s2 s3 s4;go_wp2_with fail;go_roundw
       case rel=>exact⟨_,_,_,O++z4s x,r,v6,rfl,rfl,HT2,HMR.out,HR3⟩
       case measure=>first | (simp [ziv];done) | (simp [ziv];omega)
     ·have n2:decide (cv<0)=false:=decide_eq_false hlc;have HLC:Hid (0≤z2u x.path h.path):=hd_ (by rw[hcv];exact Int.not_lt.1 hlc)
      clear hcv hlc s0 s1 s2 s3 s4;go_wp2_with fail;refine wp_region_quiet_below (by kernel_rfl) (by kernel_rfl) ?_
      repeat (first | go_big_quiet_step (exact cC _ _) | quiet_step (exact cC _ _))
      refine wpQuiet_nil ?_;intro _ hw9;obtain⟨⟨dq,osq⟩,hw9⟩:=hw9;subst hw9;have HR1:=hd_ (HR.out.under (below_regrown wr dq osq));generalize grow (redrawn wr dq) osq=W1 at HR1 ⊢;clear e1 b0 cC n2;obtain⟨s0,s1,s2,s3,s4⟩:=HSY.out W1 (HR1.out.aft.bel);have e1:=cell_regrown s1;have b0:=cell_regrown (z3s (x:=h) HR1.out.box).1;have q:=z3x x.path h.path;clear s0 s1 s2 s3 s4;by_cases hp:x.path=h.path
      ·rw[decide_eq_true hp] at q;have HPE:=hd_ hp;clear hp;go_wp2_with fail;refine wp_region_quiet_below (by kernel_rfl) (by kernel_rfl) ?_
       repeat (first | go_big_quiet_step (fail) | quiet_step (fail))
       refine wpQuiet_nil ?_;intro _ hw9;obtain⟨⟨dq,osq⟩,hw9⟩:=hw9;subst hw9;have HR2:=hd_ (HR1.out.under (below_regrown W1 dq osq));generalize grow (redrawn W1 dq) osq=W2 at HR2 ⊢;clear e1 b0;obtain⟨s0,s1,s2,s3,s4⟩:=HSY.out W2 (HR2.out.aft.bel);have HST:=hd_ (z3u x W2);cases hst:z3o x.kind with
       | true =>
        have HM:=hd_ (zjf (hs:=hs.drop (k+1)) (r:=r) (Int.not_lt.2 HLC.out) HPE.out hst);rw[hst] at HST;clear hst;go_wp2_with fail;refine HST.out.mono ?_;rintro e w5 ⟨rfl,hb⟩;have HR3:=hd_ (HR2.out.under hb);clear hb;clear s0 s1 s2 s3 s4;have HA2:=hd_ (HR3.out.aft.alloc (.cells #[.string h.path,.int .i64 h.num,.string h.loc] 44));have hbx:w5.cell? ⟨w.heap.size,0,none⟩=some v:=HR3.out.aft.box.cell 0;obtain⟨d0,d1,d2⟩:=z3s (x:=h) HR3.out.box;have hrm:=HR3.out.room HL2.out;have hrow:=z0i w5 [.string h.path,.int .i64 h.num,.string h.loc] 44 3 1 rfl (by unfold maxLen;omega) w5.heap.size rfl
        have hsz:w.heap.size+1≤(w5.alloc (.cells #[.string h.path,.int .i64 h.num,.string h.loc] 44)).heap.size:=by have:=HR3.out.aft.box.lt;simp;omega
        obtain⟨A0,c0,rfl⟩:=z0o HR3.out.aft.row;go_wp2_with (at_builtin;refine z0j rfl rfl z54 HA2.out.row rfl hrow rfl (z55 h) hrm (by unfold maxLen;omega) hsz ?_;intro A' c' w2 hown hgr hob;obtain⟨hA3,hK3⟩:=HA2.out.push (x:=h) hown hgr hob;have hbw:=Blk.grown HA2.out.box hgr (fun e=>by have:=(HA2.out.row.lt w.heap.size e.symm).1;omega);have hfz:=hbw.frozen 0;have hcl:w2.cell? ⟨w.heap.size,0,none⟩=some (.slice A0 O.length c0):=hbw.cell 0)
        have HN:=hd_ hA3;clear hK3 hbw hfz hcl;go_wp2_with fail;go_roundw
        case rel=>exact⟨k+1,_,_,_,by omega,rfl,by go_num,hd_ ⟨O++[h],r,_,rfl,HT2.out,HMR.out,HLE.out,HN.out,by rw[← HR2.out.eq,HM.out,List.append_assoc];rfl⟩⟩
        case measure=>simp [intOf];omega
       | false =>
        have HM:=hd_ (resM_go (hs:=hs.drop (k+1)) (r:=r) (Int.not_lt.2 HLC.out) HPE.out hst);rw[hst] at HST;clear hst;go_wp2_with fail;refine HST.out.mono ?_;rintro e w5 ⟨rfl,hb⟩;have HR3:=hd_ (HR2.out.under hb);clear hb;clear s0 s1 s2 s3 s4;obtain⟨s0,s1,s2,s3,s4⟩:=HSY.out w5 (HR3.out.aft.bel);have HAD:=hd_ (z58 x w w5 w.heap.size _ v HR3.out.aft (HR3.out.room HL2.out));go_wp2_with fail;refine HAD.out.mono ?_;rintro e w6 ⟨rfl,v6,h6,k6⟩;have HN:=hd_ h6;clear h6 k6;clear s0 s1 s2 s3 s4;go_wp2_with fail;go_roundw
        case rel=>exact⟨k+1,_,_,_,by omega,rfl,by go_num,hd_ ⟨O++z4s x,r,_,rfl,HT2.out,HMR.out,HLE.out,HN.out,by rw[← HR2.out.eq,HM.out,List.append_assoc]⟩⟩
        case measure=>simp [intOf];omega
      ·have HM:=hd_ (zjg (hs:=hs.drop (k+1)) (r:=r) (Int.not_lt.2 HLC.out) hp);rw[decide_eq_false hp] at q;clear hp;go_wp2_with fail;refine wp_region_quiet_below (by kernel_rfl) (by kernel_rfl) ?_
       repeat (first | go_big_quiet_step (fail) | quiet_step (fail))
       refine wpQuiet_nil ?_;intro _ hw9;obtain⟨⟨dq,osq⟩,hw9⟩:=hw9;subst hw9;have HR2:=hd_ (HR1.out.under (below_regrown W1 dq osq));generalize grow (redrawn W1 dq) osq=W2 at HR2 ⊢;clear e1 b0;have HA2:=hd_ (HR2.out.aft.alloc (.cells #[.string h.path,.int .i64 h.num,.string h.loc] 44));have hbx:W2.cell? ⟨w.heap.size,0,none⟩=some v:=HR2.out.aft.box.cell 0;obtain⟨d0,d1,d2⟩:=z3s (x:=h) HR2.out.box;have hrm:=HR2.out.room HL2.out;have hrow:=z0i W2 [.string h.path,.int .i64 h.num,.string h.loc] 44 3 1 rfl (by unfold maxLen;omega) W2.heap.size rfl
       have hsz:w.heap.size+1≤(W2.alloc (.cells #[.string h.path,.int .i64 h.num,.string h.loc] 44)).heap.size:=by have:=HR2.out.aft.box.lt;simp;omega
       obtain⟨A0,c0,rfl⟩:=z0o HR2.out.aft.row;go_wp2_with (at_builtin;refine z0j rfl rfl z54 HA2.out.row rfl hrow rfl (z55 h) hrm (by unfold maxLen;omega) hsz ?_;intro A' c' w2 hown hgr hob;obtain⟨hA3,hK3⟩:=HA2.out.push (x:=h) hown hgr hob;have hbw:=Blk.grown HA2.out.box hgr (fun e=>by have:=(HA2.out.row.lt w.heap.size e.symm).1;omega);have hfz:=hbw.frozen 0;have hcl:w2.cell? ⟨w.heap.size,0,none⟩=some (.slice A0 O.length c0):=hbw.cell 0)
       have HN:=hd_ hA3;go_roundw
       case rel=>exact⟨k+1,some ad2,c,r.length+1,by omega,rfl,by go_num,hd_ ⟨O++[h],x :: r,_,rfl,HP2.out,fun z hz=>by rcases List.mem_cons.1 hz with rfl | hz;exact HX0X.out;exact HMR.out z hz,HR2.out.len,HN.out,by rw[← HR2.out.eq,HM.out,List.append_assoc];rfl⟩⟩
       case measure=>simp [intOf];omega
  ·have hT:hs.drop k=[]:=List.drop_of_length_le (by omega)
   rw[hT,z4y] at heq;have HX:=hd_ hA;have HP:=hd_ hps;have HLL:=hd_ (show O.length+ps.length+1≤1000000 by
    have:=congrArg List.length heq;have h2:=zjj hs ss;rw[List.length_append] at this;have:=HL.out;omega)
   have HRR:=hd_ (fun(v':Value) (X:World) (h:Aft w X w.heap.size (O++ps.flatMap z4t) v')=>(⟨v',rfl,by rw[← heq];exact Row.of_own h.row,h.bel⟩:∃ v,Ending.returned v'=.returned v∧z4b X v (z4y hs ss)∧Below w.heap.size w X))
   clear hps hA heq HI HO;go_wp2_with fail;refine HKK.out _ _ (rsT17 _ (by kernel_rfl) (fun e w'=>∃ v,e=.returned v∧z4b w' v (z4y hs ss)∧Below w.heap.size w w') w _ O ps v A c HX.out HP.out HLL.out HRR.out _ _ _ _ _ _ _ _ _ _ _ _ _ _ _ _ _ _ _ _ _ _ _ _ _ _ _ _ _ _ _ _ _ _ _ _ _ _ _ _ _ _ _ _ _ _ _ _ _ _ _ _ _ _ _ _ _ _ _ _ _ _ _ _ _ _ _ _ _ _ _ _ _ _ _ _ _ _ _ _ _ _ _ _ _ _)
theorem zld (D:List Rev)(es:List zd8)(m:Int)(hs:List Hav)(op dt:List ByteArray)(dv dr mv hv ov tv:Value)(w:World)(he:Env w)(hR:z45 w dv D)(hE:zdi w mv es)(hl:D.length≤1000000)(h6:∀ r∈D,r.path∈zff)(hS:zfs es)(hnum:∀ r∈D,1≤r.num)(hf:zfi (zdt es))
  (hH:z4b w hv hs) (hOk:zf0 hs) (hhl:hs.length≤100) (hop:Strs w ov op) (hdt:Strs w tv dt) (hopl:op.length≤1000) (hdtl:dt.length≤1000):
  Calls prog 12 #[.agg #[dv,dr],mv,.int .i64 m,hv,ov,tv] w (zl9 w (zf9 hs (zfk D (zdt es) m) op dt)):=by
 obtain⟨Ah,ch,rfl,-⟩:=id hH;obtain⟨Ao,co,rfl,-⟩:=id hop;obtain⟨At,ct,rfl,-⟩:=id hdt;obtain⟨Ad,cd,rfl,-⟩:=id hR;have hwok:=zfn (m:=m) hnum hf;have hwl:(zfk D (zdt es) m).length≤6:=zfp;have HWN:=hd_ (fun X (hX:Below w.heap.size w X)=>zg0 D es m (.slice Ad D.length cd) dr mv X (he.below hX) (hR.below hX) (hE.below hX) hl h6 hS);generalize zfk D (zdt es) m=ws at *;have hhe:z4g hs=0:=zf5.2 ⟨hOk,by omega⟩
 have HHC:Hid (∀ X,Below w.heap.size w X→Calls prog 20 #[.slice Ah hs.length ch] X fun e w'=>e=.returned (.int .i64 0)∧Below X.heap.size X w'):=hd_ fun X hX=>by
  have:=z4o hs (.slice Ah hs.length ch) X (Row.below hH hX) (fun x hx=>by have:=zlc hOk x hx;omega)
  rw[hhe] at this;exact this
 have HH:=hd_ hH;have HOP:=hd_ hop;have HDT:=hd_ hdt;have HOK:=hd_ hOk;have HWOK:=hd_ hwok;obtain⟨d0,d1⟩:=(⟨(z0l w [.slice Ad D.length cd,dr] 26).cell 0,(z0l w [.slice Ad D.length cd,dr] 26).cell 1⟩:(w.alloc (.cells #[.slice Ad D.length cd,dr] 26)).cell? ⟨w.heap.size,0,none⟩=some (.slice Ad D.length cd)∧(w.alloc (.cells #[.slice Ad D.length cd,dr] 26)).cell? ⟨w.heap.size,1,none⟩=some dr);have hA:Below w.heap.size w (w.alloc (.cells #[.slice Ad D.length cd,dr] 26)):=(Below.refl _ _).alloc (Nat.le_refl _) _;have HA:=hd_ hA;clear he hR hE hl h6 hS hnum hf hH hOk hop hdt hwok hhe hA;go_enter func12,ntmps12;go_wp2_with fail;refine (HWN.out _ HA.out).mono ?_;rintro e w1 ⟨wv,rfl,hwv,hb1⟩;dsimp only;have HB1:=hd_ (z0r HA.out hb1);obtain⟨Aw,cw,rfl,-⟩:=id hwv;have HWV:=hd_ hwv;clear hb1 hwv d0 d1 HWN;go_wp2_with fail;refine (HHC.out _ HB1.out).mono ?_;rintro e w2 ⟨rfl,hb2⟩;dsimp only;have HB2:=hd_ (z0r HB1.out hb2);have HDF:=hd_ (ziw hs ws (.slice Ah hs.length ch) (.slice Aw ws.length cw) w2 (Row.below HH.out HB2.out) (Row.below HWV.out hb2) (fun x hx=>by have:=zlc HOK.out x hx;omega) (fun x hx=>by have:=zlc HWOK.out x hx;omega) (by omega))
 clear hb2 HHC;go_wp2_with fail;refine HDF.out.mono ?_;rintro e w3 ⟨pv,rfl,ho3,hb3⟩;dsimp only;have hps:(z6h (hs.length+ws.length) hs ws).map (zf7 op dt)=zf8 hs ws op dt:=rfl;have hpl:=zla (hs.length+ws.length) hs ws;generalize z6h (hs.length+ws.length) hs ws=ps at ho3 hps hpl;obtain⟨Ap,cp,rfl⟩:=z0o ho3;have HAP:Hid ((Ap=none∧ps.length=0)∨∃ g,w2.heap.size≤g∧g<w3.heap.size∧Ap=some ⟨g,0,none⟩):=hd_ (by
  rcases ho3.2 with⟨e1,e2⟩ | ⟨g,cap,cur,e1,e2,e3,-⟩
  ·injection e1 with e1
   exact .inl ⟨e1,e2⟩
  ·injection e1 with e1
   exact .inr ⟨g,e2,(Array.getElem?_eq_some_iff.1 e3).1,e1⟩)
 have HB3:=hd_ (z0r HB2.out hb3);have HO3:=hd_ ho3;have HPS:=hd_ hps;have HBX:=hd_ hb3;have HS1:=hd_ (zjz op (.slice Ao op.length co) w3 (HOP.out.below HB3.out) (by omega))
 clear ho3 hb3 hps HDF;go_upto_region 7 with fail;rename ∀ a w,Code.wp _ (Code.seq (Code.seq (Code.region 8 _ _) _) _) _ a w→_=>hk7
 have HK7:=hd_ hk7;clear hk7;go_wp2_with fail;refine HS1.out.mono ?_;rintro e w4 ⟨rfl,hs4,hb4⟩;dsimp only;have HB4:=hd_ (z0r HB3.out hb4);have HS4:=hd_ hs4;have HBX4:=hd_ hb4;have HS2:=hd_ (zjz dt (.slice At dt.length ct) w4 (HDT.out.below HB4.out) (by omega))
 clear hs4 hb4 HS1;go_wp2_with fail;refine HS2.out.mono ?_;rintro e w5 ⟨rfl,hs5,hb5⟩;dsimp only;go_wp2_with fail;have hB:w.heap.size≤w2.heap.size:=HB2.out.size;have hl3:w3.heap.size<w4.heap.size:=HS4.out.lt;have hl4:w4.heap.size<w5.heap.size:=hs5.lt;have hl23:w2.heap.size≤w3.heap.size:=HBX.out.size;have hB5:Below w.heap.size w w5:=z0r HB4.out hb5;have hO5:zjv w5 w2.heap.size (.slice Ap ps.length cp) ps:=z0n (z0n HO3.out HBX4.out) hb5;obtain⟨g8,h81,h82,h83,h84⟩:∃ g,w3.heap.size≠g∧w4.heap.size≠g∧w2.heap.size≤g∧(0<ps.length→Ap=some ⟨g,0,none⟩):=by
  rcases HAP.out with⟨-,e⟩ | ⟨g,e1,e2,e3⟩
  ·exact⟨w5.heap.size,by omega,by omega,by omega,fun h=>by omega⟩
  ·exact⟨g,by omega,by omega,e1,fun _=>e3⟩
 obtain⟨gB,hb1,hb2,hb3⟩:∃ g,w2.heap.size≤g∧g<w5.heap.size∧(0<ps.length→Ap=some ⟨g,0,none⟩):=by
  rcases HAP.out with⟨-,e⟩ | ⟨g,e1,e2,e3⟩
  ·exact⟨w2.heap.size,Nat.le_refl _,by omega,fun h=>by omega⟩
  ·exact⟨g,e1,by omega,fun _=>e3⟩
 have hH2:∀ X,Below w2.heap.size w5 X→Below w.heap.size w X:=fun X hX=>hB5.trans (hX.mono hB);have hpz:∀ x∈zeg (blB hs (ps.map (zf7 op dt))) (ps.map (zf7 op dt)),x.path.size≤1000000:=fun x hx=>by
  obtain⟨y,hy,rfl⟩:=List.mem_map.1 hx;rw[zeh];rw[HPS.out] at hy;obtain⟨z,hz,rfl⟩:=List.mem_map.1 hy;rcases z6j _ _ _ z hz with⟨h,h1,h2⟩ | ⟨h,h1,h2⟩
  ·have:=(zlc HOK.out h h1).1;show z.path.size≤_
   rw[← h2];omega
  ·have:=(zlc HWOK.out h h1).1;show z.path.size≤_
   rw[← h2];omega
 have hsp:=(zfc (op:=op) (dt:=dt) HOK.out HWOK.out).1;have hfr:=zlb (op:=op) (dt:=dt) HOK.out HWOK.out;rw[← HPS.out] at hsp hfr;have hlm:(ps.map (zf7 op dt)).length=ps.length:=List.length_map _;refine HK7.out _ _ (plT8 _ (by kernel_rfl) _ w5 w2.heap.size w3.heap.size w4.heap.size g8 cp Ap ps op dt h84 ⟨by rw[List.take_zero,List.drop_zero];exact hO5,z2f.below HS4.out hb5,hs5,Below.refl _ _⟩ h81 h82 h83 (by omega) (by omega) hs (z4y hs (zeg (blB hs (ps.map (zf7 op dt))) (ps.map (zf7 op dt)))) Ah ch (zeg (blB hs (ps.map (zf7 op dt))) (ps.map (zf7 op dt))) (fun X hX hO=>?_) (fun X hX hO=>?_) (fun h X hX=>?_) (fun h X hX hO=>?_) _ _ _ _ _ _ _ _ _ _ _ _ _ _ _ _ _ _ _ _ _ _ _ _ _ _ _ _ _ _ _ _ _ _ _ _ _ _ _ _ _ _ _ _ _ _ _ _ _ _ _ _ _ _ _ _ _ _ _ _ _ _ _ _ _ _ _ _ _ _ _ _ _ _ _ _ _ _ _ _ _ _ _ _ _ _ _ _ _ _ _ _ _)
 ·have hbk:=zl8 hs (ps.map (zf7 op dt)) Ah Ap ch gB cp w2.heap.size X (fun h=>hb3 (by rw[hlm] at h;exact h)) (Row.below HH.out (hH2 X hX)) (by rw[hlm];exact hO) HOK.out hsp hfr hb1 (by have:=hX.size;omega) (by rw[hlm];omega) (by omega)
  rw[hlm] at hbk;exact hbk
 ·have hS:z4z X (.slice Ap ps.length cp) (zeg (blB hs (ps.map (zf7 op dt))) (ps.map (zf7 op dt))):=Row.of_own hO;exact zjl hs _ _ _ X (Row.below HH.out (hH2 X hX)) hS (fun x hx=>by have:=(zlc HOK.out x hx).1;omega) hpz (by rw[zl2,hlm];omega)
 ·have:=zjj hs (zeg (blB hs (ps.map (zf7 op dt))) (ps.map (zf7 op dt)));rw[zl2,hlm] at this;omega
 ·refine⟨_,rfl,?_,hH2 X hX⟩;unfold zf9;rw[← HPS.out];exact Row.of_own hO
section
variable {hs ws : List Hav} {op dt : List ByteArray}
end
structure PlOk (D:List Rev)(es:List zd8):Prop where
 len:D.length≤1000
 six:∀ r∈D,r.path∈zff
 num:∀ r∈D,1≤r.num
 shw:zfs es
 fwd:zfi (zdt es)
theorem plOk_of {D:List Rev}{n k:Nat}{es:List zd8}(hD:zmr D n)(hn:n≤1000)(hk:k<8)(he:es.map zd8.pl=zg3 k):PlOk D es:=
 ⟨Nat.le_trans hD.len hn,hD.six,zmt hD,(zgb hk he).1,(zfr k).of_congr (zgb hk he).2⟩
section
variable {D : List Rev} {es : List zd8} {hs : List Hav} {op dt : List ByteArray} {dv dr mv hv ov tv : Value} {w : World}
theorem zn2 (h:PlOk D es)(m:Int)(he:Env w)(hR:z45 w dv D)(hE:zdi w mv es):Calls prog 13 #[.agg #[dv,dr],mv,.int .i64 m] w (zfz w (zfk D (zdt es) m)):=
 zg0 D es m dv dr mv w he hR hE (by have:=h.len;omega) h.six h.shw
theorem zn3 (h:PlOk D es)(m:Int)(he:Env w)(hR:z45 w dv D)(hE:zdi w mv es)(hH:z4b w hv hs)(hOk:zf0 hs)(hl:hs.length≤100)(hop:Strs w ov op)(hdt:Strs w tv dt)(opl:op.length≤1000)(dtl:dt.length≤1000):
  Calls prog 12 #[.agg #[dv,dr],mv,.int .i64 m,hv,ov,tv] w (zl9 w (zf9 hs (zfk D (zdt es) m) op dt)):=
 zld D es m hs op dt dv dr mv hv ov tv w he hR hE (by have:=h.len;omega) h.six h.shw h.num h.fwd hH hOk hl hop hdt opl dtl
end
def zn7:ByteArray:=⟨#[47,47,99,47,97]⟩
def zn8:ByteArray:=⟨#[47,47,99,47,98]⟩
def knRv (p:ByteArray):Rev:=⟨p,1,1,1,⟨1,false,false,false⟩,1,1,z2l,0⟩
def knD:List Rev:=[knRv knA,knRv knB]
def knH:List Hav:=[⟨knA,1,zn8⟩,⟨knB,1,zn7⟩]
def knWs:List Hav:=[⟨knA,1,zn7⟩,⟨knB,1,zn8⟩]
def knX:Syn:=⟨3,knA,1,zn8,zn7⟩
def knY:Syn:=⟨6,knB,1,zn7,zn8⟩
theorem zn9:zfk knD (zfq 0) 1=knWs:=by kernel_rfl
theorem kn_hav:zf0 knH:=by
 refine⟨?_,by decide +kernel,by decide +kernel⟩
 unfold z6b z5x knH;simp only[List.pairwise_cons,List.mem_singleton,forall_eq,List.not_mem_nil,false_implies,implies_true,List.Pairwise.nil,and_true]
 decide +kernel
theorem zna:zf8 knH knWs [knB] []=[knX,knY]:=by
 have c1:¬ z2u knA knA<0:=by decide +kernel
 have c2:¬ 0<z2u knA knA:=by decide +kernel
 have d1:¬ z2u knB knB<0:=by decide +kernel
 have d2:¬ 0<z2u knB knB:=by decide +kernel
 have e1:¬(⟨knA,1,zn8⟩:Hav)=⟨knA,1,zn7⟩:=fun h=>by injection h with _ _ h;exact absurd h (by decide)
 have e2:¬(⟨knB,1,zn7⟩:Hav)=⟨knB,1,zn8⟩:=fun h=>by injection h with _ _ h;exact absurd h (by decide)
 have h:z6h 4 knH knWs=[⟨0,knA,1,zn8,zn7⟩,⟨0,knB,1,zn7,zn8⟩]:=by
  unfold knH knWs;simp only[z6h,if_neg c1,if_neg c2,if_neg d1,if_neg d2,if_neg e1,if_neg e2]
  rfl
 show (z6h 4 knH knWs).map (zf7 [knB] [])=_
 rw[h];kernel_rfl
theorem kn_blA:blB knH [knX,knY] knA=true:=zee.2 (Bl.stay (x:=knX) (y:=knY) (h:=⟨knB,1,zn7⟩) (List.mem_cons_self ..) rfl (by decide) (List.mem_cons_of_mem _ (List.mem_cons_self ..)) rfl (by decide) (by kernel_rfl) rfl)
theorem kn_blB:blB knH [knX,knY] knB=false:=by
 have key:∀ p,Bl knH [knX,knY] p→p=knA:=by
  intro p h;have go:∀ x:Syn,x∈[knX,knY]→z3o x.kind=false→x.path=knA:=fun x hx hk=>by
   simp only[List.mem_cons,List.not_mem_nil,or_false] at hx
   rcases hx with rfl | rfl
   ·rfl
   ·exact absurd hk (by decide)
  cases h with
  | free hx hk=>exact go _ hx hk
  | stay hx hk=>exact go _ hx hk
  | next hx hk=>exact go _ hx hk
 cases hb:blB knH [knX,knY] knB with
 | false=>rfl
 | true=>exact absurd (key knB (zee.1 hb)) (by decide)
theorem kn_plan:zf9 knH (zfk knD (zfq 0) 1) [knB] []=[⟨5,knA,1,zn8,zn7⟩,knY]:=by
 rw[zn9];unfold zf9;rw[zna];show [zef _ knX,zef _ knY]=_
 unfold zef;rw[show blB knH [knX,knY] knX.path=true from kn_blA,show blB knH [knX,knY] knY.path=false from kn_blB];rfl
theorem kn_plOk {es:List zd8}(he:es.map zd8.pl=zg3 0):PlOk knD es:=
 ⟨by decide,by decide +kernel,by decide +kernel,(zgb (by decide) he).1,(zfr 0).of_congr (zgb (by decide) he).2⟩
theorem kn_fwd {es:List zd8}(he:es.map zd8.pl=zg3 0):zfk knD (zdt es) 1=zfk knD (zfq 0) 1:=zgc (zgb (by decide) he).2
structure KnS (w X:World)(g bl be bn gs:Nat)(Ae:Option Addr)(ce:Nat):Prop where
 bel:Below w.heap.size w X
 chk:Chk X g (.slice none 0 0) (.slice none 0 0) 1 ⟨#[]⟩ ⟨#[]⟩ (.slice Ae 2 ce) (.slice none 0 0) bl be bn
 last:z7r X bl zgn
 ne:bl≠be
 eds:KnE X Ae ce
 boxD:Blk X w.heap.size 26 [.slice none 0 0,.slice none 0 0]
 boxC:Blk X (w.heap.size+1) 95 [.int .i64 1,.string ⟨#[]⟩,.string ⟨#[]⟩,.slice Ae 2 ce,.slice none 0 0]
 boxR:Blk X (w.heap.size+1+1) 26 [.slice none 0 0,.slice none 0 0]
 stp:Blk X gs 141 [.func (.func 113) #[.pointer (some ⟨g,0,none⟩)] #[],.func (.func 114) #[.pointer (some ⟨g,0,none⟩)] #[],.func (.func 115) #[.pointer (some ⟨g,0,none⟩)] #[],.func (.func 116) #[.pointer (some ⟨g,0,none⟩)] #[],.func (.func 117) #[.pointer (some ⟨g,0,none⟩)] #[]]
theorem KnS.below {w X X':World}{g bl be bn gs:Nat}{Ae:Option Addr}{ce:Nat}(h:KnS w X g bl be bn gs Ae ce)(hb:Below X.heap.size X X'):KnS w X' g bl be bn gs Ae ce:=
 ⟨z0r h.bel hb,h.chk.below hb h.chk.lt,z2f.below h.last hb,h.ne,h.eds.below hb,h.boxD.below hb h.boxD.lt,h.boxC.below hb h.boxC.lt,h.boxR.below hb h.boxR.lt,h.stp.below hb h.stp.lt⟩
theorem KnS.every {w X X':World}{g bl be bn gs:Nat}{Ae:Option Addr}{ce:Nat}(h:KnS w X g bl be bn gs Ae ce)(ho:∃ es c,X.heap[be]? = some (.map es c))(hg:X.grownBy X' (some be))(hle:w.heap.size≤be):KnS w X' g bl be bn gs Ae ce:=
 ⟨h.bel.grown hg h.bel.size (fun k e=>by injection e with e;omega),Blk.turn h.chk ho hg,z2f.grown h.last hg (by intro e;injection e with e;exact h.ne e),h.ne,Row.turn h.eds (by decide) ho hg,Blk.turn h.boxD ho hg,Blk.turn h.boxC ho hg,Blk.turn h.boxR ho hg,Blk.turn h.stp ho hg⟩
def KnAp (w:World)(e:Ending)(w':World):Prop:=∃(A:Option Addr) (c:Nat) (A2:Option Addr) (c2:Nat),e=.returned (.tuple #[.agg #[.slice A 2 c,.slice A2 0 c2],.int .i64 0])∧z45 w' (.slice A 2 c) knD∧Below w.heap.size w w'
theorem znb {k:Nat}{p:ByteArray}(hk:k<2)(h0:k=0→p=knA)(h1:k=1→p=knB):(knD.take (k+1)).flatMap Rev.cells=(knD.take k).flatMap Rev.cells++[.string p,.int .i64 1,.int .i64 1,.int .i64 1,.int .i64 1,.bool false,.bool false,.bool false,.int .u64 1,.int .i64 1,.string ⟨#[]⟩,.int .i64 0]:=by
 rcases (by omega:k=0∨k=1) with rfl | rfl
 ·rw[h0 rfl];rfl
 ·rw[h1 rfl];rfl
theorem znc (Ae:Option Addr)(ce:Nat)(w:World)(hE:KnE w Ae ce):Calls prog 43 #[.agg #[.slice none 0 0,.slice none 0 0],.agg #[.int .i64 1,.string ⟨#[]⟩,.string ⟨#[]⟩,.slice Ae 2 ce,.slice none 0 0]] w (KnAp w):=by
 obtain⟨W1,hW1⟩:∃ W,W=((w.alloc (.cells #[.slice none 0 0,.slice none 0 0] 26)).alloc (.cells #[.int .i64 1,.string ⟨#[]⟩,.string ⟨#[]⟩,.slice Ae 2 ce,.slice none 0 0] 95)).alloc (.cells #[.slice none 0 0,.slice none 0 0] 26):=⟨_,rfl⟩;have hb1:Below w.heap.size w W1:=by rw[hW1];exact (((Below.refl _ _).alloc (Nat.le_refl _) _).alloc (by simp) _).alloc (by simp;omega) _
 have hs1:W1.heap.size=w.heap.size+1+1+1:=by rw[hW1];simp
 have hB1:Blk W1 w.heap.size 26 [.slice none 0 0,.slice none 0 0]:=by rw[hW1];exact ((z0l w _ _).alloc _).alloc _
 have hB2:Blk W1 (w.heap.size+1) 95 [.int .i64 1,.string ⟨#[]⟩,.string ⟨#[]⟩,.slice Ae 2 ce,.slice none 0 0]:=by
  rw[hW1];have:=z0l (w.alloc (.cells #[.slice none 0 0,.slice none 0 0] 26)) [.int .i64 1,.string ⟨#[]⟩,.string ⟨#[]⟩,.slice Ae 2 ce,.slice none 0 0] 95;simp only[World.size_alloc] at this
  exact this.alloc _
 have hB3:Blk W1 (w.heap.size+1+1) 26 [.slice none 0 0,.slice none 0 0]:=by
  rw[hW1];have:=z0l ((w.alloc (.cells #[.slice none 0 0,.slice none 0 0] 26)).alloc (.cells #[.int .i64 1,.string ⟨#[]⟩,.string ⟨#[]⟩,.slice Ae 2 ce,.slice none 0 0] 95)) [.slice none 0 0,.slice none 0 0] 26;simp only[World.size_alloc] at this
  exact this
 have HW1:=hd_ hW1;have HNC:=hd_ (knNew Ae ce W1);have HE:=hd_ hE;clear hW1 hE;go_enter func43,ntmps43;obtain⟨c0,c1,-,-⟩:=box2 hB1;obtain⟨d0,d1,d2,d3,d4⟩:=zhx hB2;go_upto_region 1 with fail;rw[← HW1.out];go_wp2_with fail;refine HNC.out.mono ?_;rintro e w2 ⟨g,bl,be,bn,rfl,hK2⟩;have HK2:=hd_ hK2;clear c0 c1 d0 d1 d2 d3 d4 hK2;go_wp2_with fail;refine (knSteps g w2).mono ?_;rintro e w3 ⟨rfl,hb3,hs3⟩;have HST:Hid (KnS w w3 g bl be bn w2.heap.size Ae ce):=hd_ (by
  have k:=HK2.out;have hb13:Below W1.heap.size W1 w3:=z0r k.bel hb3;have hbw:Below w.heap.size w w3:=z0r hb1 hb13;exact⟨hbw,k.chk.below hb3 k.chk.lt,z2f.below k.last hb3,k.ne,KnE.below HE.out hbw,hB1.below hb13 hB1.lt,hB2.below hb13 hB2.lt,hB3.below hb13 hB3.lt,hs3⟩)
 have HEM:Hid (∃ F,z7s w3 be F):=hd_ (by obtain⟨F,hF⟩:=HK2.out.edt;exact⟨F,z2f.below hF hb3⟩)
 have HLE:Hid (w.heap.size≤be):=hd_ (by have:=HK2.out.le;omega)
 clear hb3 hs3 hB1 hB2 hB3 hb1 hs1 HK2 HNC HW1;generalize w2.heap.size=gs at HST ⊢;go_wp2_with fail;refine wp_loop_rounds 6 ?_;rw[rounds_succ];have t0:w3.cell? ⟨gs,0,none⟩=some (.func (.func 113) #[.pointer (some ⟨g,0,none⟩)] #[]):=HST.out.stp.cell 0;have HZ0:=hd_ (knSize g bl be bn Ae ce w3 HST.out.chk);go_wp2_with fail;refine HZ0.out.mono ?_;rintro e v0 ⟨rfl,hv⟩;have HS0:=hd_ (HST.out.below hv);have HEM0:Hid (∃ F,z7s v0 be F):=hd_ (by obtain⟨F,hF⟩:=HEM.out;exact⟨F,z2f.below hF hv⟩)
 clear hv t0 HZ0 HST HEM;go_wp2_with fail;rw[rounds_succ];have t1:v0.cell? ⟨gs,1,none⟩=some (.func (.func 114) #[.pointer (some ⟨g,0,none⟩)] #[]):=HS0.out.stp.cell 1;obtain⟨F,hF⟩:=HEM0.out;have HOB:=hd_ (z2f.obj hF);have HZ1:=hd_ (knEvery g bl be bn Ae ce v0 HS0.out.chk HS0.out.last HS0.out.ne HS0.out.eds hF);clear hF HEM0;go_wp2_with fail;refine HZ1.out.mono ?_;rintro e v1 ⟨rfl,hv⟩;have HS1:=hd_ (HS0.out.every HOB.out hv HLE.out);clear hv t1 HZ1 HS0 HOB;go_wp2_with fail;rw[rounds_succ];have t2:v1.cell? ⟨gs,2,none⟩=some (.func (.func 115) #[.pointer (some ⟨g,0,none⟩)] #[]):=HS1.out.stp.cell 2;have HZ2:=hd_ (knMoves g bl be bn Ae ce v1 HS1.out.chk HS1.out.eds);go_wp2_with fail;refine HZ2.out.mono ?_;rintro e v2 ⟨rfl,hv⟩;have HS2:=hd_ (HS1.out.below hv);clear hv t2 HZ2 HS1;go_wp2_with fail;rw[rounds_succ];have t3:v2.cell? ⟨gs,3,none⟩=some (.func (.func 116) #[.pointer (some ⟨g,0,none⟩)] #[]):=HS2.out.stp.cell 3;have HZ3:=hd_ (knRecs g bl be bn Ae ce v2 HS2.out.chk);go_wp2_with fail;refine HZ3.out.mono ?_;rintro e v3 ⟨rfl,hv⟩;have HS3:=hd_ (HS2.out.below hv);clear hv t3 HZ3 HS2;go_wp2_with fail;rw[rounds_succ];have t4:v3.cell? ⟨gs,4,none⟩=some (.func (.func 117) #[.pointer (some ⟨g,0,none⟩)] #[]):=HS3.out.stp.cell 4;have HZ4:=hd_ (knRoom g bl be bn Ae ce v3 HS3.out.chk);go_wp2_with fail;refine HZ4.out.mono ?_;rintro e v4 ⟨rfl,hv⟩;have HS4:=hd_ (HS3.out.below hv);clear hv t4 HZ4 HS3;go_wp2_with fail;rw[rounds_succ];go_upto_region 9 with fail;refine knR9 _ (by kernel_rfl) _ w.heap.size (w.heap.size+1) (.slice Ae 2 ce) v4 HS4.out.boxD HS4.out.boxC ?_
 intro eH eI eJ eK eL eM eN eO eP eQ g10 v2' w5 H9;have HR0:=hd_ H9.out.1;obtain⟨A2,c2,hv2⟩:=H9.out.2;clear H9;subst hv2;have e3:w5.cell? ⟨w.heap.size+1,3,none⟩=some (.slice Ae 2 ce):=(HS4.out.below HR0.out.bel).boxC.cell 3;go_wp2_with fail;clear e3;go_loopw [43] (fun s wr=>∃(k:Nat) (v1:Value),s=.int .i64 k∧k≤2∧Hid (WaR v4 wr g10 v1 (.slice A2 0 c2) k ((knD.take k).flatMap Rev.cells))) (fun s _=>2 - (intOf s).toNat)
 case atStart=>exact⟨0,_,rfl,by omega,HR0.out⟩
 case round =>
  obtain⟨k,v1,rfl,hk,HK⟩:=hrel;by_cases hlt:k<2
  ·obtain⟨ad,p,rfl,hab,⟨x0,x1,x2,x3,x4,x5,x6,x7,x8,x9,x10,x11⟩,hp0,hp1⟩:=(HS4.out.below HK.out.bel).eds.at_ k hlt;have HT:=hd_ (znb hlt hp0 hp1);have hX1:=z0l wr [.string p,.int .i64 1,.int .i64 1,.bool false,.bool false,.bool false,.int .u64 1,.int .i64 1,.int .i64 0,.string ⟨#[]⟩,.int .i64 0,.int .i64 0] 90;have hA1:Below wr.heap.size wr (wr.alloc (.cells #[.string p,.int .i64 1,.int .i64 1,.bool false,.bool false,.bool false,.int .u64 1,.int .i64 1,.int .i64 0,.string ⟨#[]⟩,.int .i64 0,.int .i64 0] 90)):=(Below.refl _ _).alloc (Nat.le_refl _) _;have q2:decide ((k:Int)<2)=true:=by simp;omega
   clear hp0 hp1;go_upto_region 13 with fail;clear x0 x1 x2 x3 x4 x5 x6 x7 x8 x9 x10 x11;generalize wr.alloc (.cells #[.string p,.int .i64 1,.int .i64 1,.bool false,.bool false,.bool false,.int .u64 1,.int .i64 1,.int .i64 0,.string ⟨#[]⟩,.int .i64 0,.int .i64 0] 90)=V1 at hX1 hA1 ⊢;have HRV2:=hd_ (fun X (hX:Below V1.heap.size V1 X)=>zij p g bl be bn _ ce X ((HS4.out.below (z0r (z0r HK.out.bel hA1) hX)).chk) ((HS4.out.below (z0r (z0r HK.out.bel hA1) hX)).last));have HAR:=hd_ (HK.out.under hA1);have HX1:=hd_ hX1;clear hX1;refine knR13 _ (by kernel_rfl) _ g g10 wr.heap.size k p v1 _ _ v4 V1 HAR.out HX1.out (by omega) HRV2.out ?_
   intro eY eZ fa fd fe ff fg fh v3 w6 HQ;go_wp2_with fail;go_roundw
   case rel =>
    refine⟨k+1,v3,by go_num,by omega,?_⟩
    have:=HQ.out;rw[← HT.out] at this;exact this
   case measure=>simp [intOf];omega
  ·have hkk:k=2:=by omega
   subst hkk;have hR2:=HK.out;obtain⟨A1,c1,hv1⟩:=z0o hR2.one;subst hv1;have HSR:=hd_ (fun X=>knSort A2 c2 (.func (.func 78) #[] #[]) X);have b1':wr.cell? ⟨g10,1,none⟩=some (.slice A2 0 c2):=hR2.box.cell 1;have HR2:=hd_ hR2;clear hR2 HK;have q2:decide ((2:Int)<2)=false:=by decide
   go_wp2_with fail;refine (HSR.out _).mono ?_;rintro e w6 ⟨rfl,rfl⟩;have hbx:=HR2.out.box;have hre:=(HS4.out.below HR2.out.bel).boxR;have hbw:=(HS4.out.below HR2.out.bel).bel;have hlt6:w.heap.size+1+1<v4.heap.size:=HS4.out.boxR.lt;have HBW:=hd_ hbw;clear b1' hbw;obtain⟨b0,b1,-,-⟩:=box2 hbx;obtain⟨r0,r1,f0,f1⟩:=box2 hre;go_wp2_with fail;have hR5:=(hre.set_ 0 (.slice A1 2 c1)).set_ 1 (.slice A2 0 c2);have hB5:=(HBW.out.setCell (p:=⟨w.heap.size+1+1,0,none⟩) (by simp;omega) (.slice A1 2 c1)).setCell (p:=⟨w.heap.size+1+1,1,none⟩) (by simp;omega) (.slice A2 0 c2)
   have hO5:=Row.of_own (z4r (z4r HR2.out.one (p:=⟨w.heap.size+1+1,0,none⟩) (fun e=>by have:=HR2.out.one.lt _ e;simp at this;omega) (.slice A1 2 c1)) (p:=⟨w.heap.size+1+1,1,none⟩) (fun e=>by have:=HR2.out.one.lt _ e;simp at this;omega) (.slice A2 0 c2))
   clear b0 b1 r0 r1 f0 f1 hre hbx;generalize (wr.setCell ⟨w.heap.size+1+1,0,none⟩ (.slice A1 2 c1)).setCell ⟨w.heap.size+1+1,1,none⟩ (.slice A2 0 c2)=W5 at hR5 hB5 hO5 ⊢;obtain⟨r0,r1,-,-⟩:=box2 hR5;exact bodyPost_ret (v:=.tuple #[.agg #[.slice A1 2 c1,.slice A2 0 c2],.int .i64 0]) (by simp [results,results43,go_sem,r0,r1]) rfl ⟨A1,c1,_,_,rfl,hO5,hB5⟩
theorem zne (w:World)(he:Env w):Calls prog 14 #[] w fun e w'=>e=.returned (.bool true)∧Below w.heap.size w w':=by
 have HE:=hd_ he;clear he;have hx1:=z0l w [.string ⟨#[47,47,100,47,97]⟩,.int .i64 1,.int .i64 1,.bool false,.bool false,.bool false,.int .u64 1,.int .i64 1,.int .i64 0,.string ⟨#[]⟩,.int .i64 0,.int .i64 0] 90;have hb1:Below w.heap.size w (w.alloc (.cells #[.string ⟨#[47,47,100,47,97]⟩,.int .i64 1,.int .i64 1,.bool false,.bool false,.bool false,.int .u64 1,.int .i64 1,.int .i64 0,.string ⟨#[]⟩,.int .i64 0,.int .i64 0] 90)):=(Below.refl _ _).alloc (Nat.le_refl _) _;go_enter func14,ntmps14;go_upto_region 2 with fail;generalize w.alloc (.cells #[.string ⟨#[47,47,100,47,97]⟩,.int .i64 1,.int .i64 1,.bool false,.bool false,.bool false,.int .u64 1,.int .i64 1,.int .i64 0,.string ⟨#[]⟩,.int .i64 0,.int .i64 0] 90)=W1 at hx1 hb1 ⊢;obtain⟨g1,hg1⟩:∃ g,g=w.heap.size:=⟨_,rfl⟩;rw[← hg1] at hx1 ⊢;obtain⟨x0,x1,x2,x3,x4,x5,x6,x7,x8,x9,x10,x11⟩:=z7z hx1;have hy2:=z0l W1 [.string ⟨#[47,47,100,47,97]⟩,.int .i64 1,.int .i64 1,.bool false,.bool false,.bool false,.int .u64 1,.int .i64 1,.int .i64 0,.string ⟨#[]⟩,.int .i64 0,.int .i64 0] 90;have HG1:=hd_ hg1;clear hg1;go_upto_region 3 with fail;have HB2:=hd_ (zcf hb1 (.cells #[.string ⟨#[47,47,100,47,97]⟩,.int .i64 1,.int .i64 1,.bool false,.bool false,.bool false,.int .u64 1,.int .i64 1,.int .i64 0,.string ⟨#[]⟩,.int .i64 0,.int .i64 0] 90));have hx2:=hx1.alloc (.cells #[.string ⟨#[47,47,100,47,97]⟩,.int .i64 1,.int .i64 1,.bool false,.bool false,.bool false,.int .u64 1,.int .i64 1,.int .i64 0,.string ⟨#[]⟩,.int .i64 0,.int .i64 0] 90);have hlt:g1<W1.heap.size:=hx1.lt;have hlw:=HB2.out.size;have hle2:w.heap.size≤W1.heap.size:=hb1.size;clear x0 x1 x2 x3 x4 x5 x6 x7 x8 x9 x10 x11 hx1 hb1 hlw;generalize W1.alloc (.cells #[.string ⟨#[47,47,100,47,97]⟩,.int .i64 1,.int .i64 1,.bool false,.bool false,.bool false,.int .u64 1,.int .i64 1,.int .i64 0,.string ⟨#[]⟩,.int .i64 0,.int .i64 0] 90)=W2 at HB2 hx2 hy2 ⊢;generalize W1.heap.size=g2 at hy2 hlt hle2 ⊢;have f0:W2.cell? ⟨g2,0,none⟩=some (.string ⟨#[47,47,100,47,97]⟩):=hy2.cell 0;have f1:W2.frozen? ⟨g2,0,none⟩=false:=hy2.frozen 0
 go_upto_region 4 with fail;have hy3:=hy2.set_ 0 (.string ⟨#[47,47,100,47,98]⟩);have hx3:=hx2.far (p:=⟨g2,0,none⟩) (by show g2≠g1;omega) (.string ⟨#[47,47,100,47,98]⟩)
 have HB3:=hd_ (HB2.out.setCell (p:=⟨g2,0,none⟩) hle2 (.string ⟨#[47,47,100,47,98]⟩));clear f0 f1 hx2 hy2 HB2;generalize W2.setCell ⟨g2,0,none⟩ (.string ⟨#[47,47,100,47,98]⟩)=W3 at hy3 hx3 HB3 ⊢;obtain⟨x0,x1,x2,x3,x4,x5,x6,x7,x8,x9,x10,x11⟩:=z7z hx3;have hy3':Blk W3 g2 90 [.string ⟨#[47,47,100,47,98]⟩,.int .i64 1,.int .i64 1,.bool false,.bool false,.bool false,.int .u64 1,.int .i64 1,.int .i64 0,.string ⟨#[]⟩,.int .i64 0,.int .i64 0]:=hy3;obtain⟨y0,y1,y2,y3,y4,y5,y6,y7,y8,y9,y10,y11⟩:=z7z hy3';have HAP:=hd_ (znc (some ⟨W3.heap.size,0,none⟩) 2 (W3.alloc (.cells #[.string ⟨#[47,47,100,47,97]⟩,.int .i64 1,.int .i64 1,.bool false,.bool false,.bool false,.int .u64 1,.int .i64 1,.int .i64 0,.string ⟨#[]⟩,.int .i64 0,.int .i64 0,.string ⟨#[47,47,100,47,98]⟩,.int .i64 1,.int .i64 1,.bool false,.bool false,.bool false,.int .u64 1,.int .i64 1,.int .i64 0,.string ⟨#[]⟩,.int .i64 0,.int .i64 0] 90)) (z0i W3 [.string ⟨#[47,47,100,47,97]⟩,.int .i64 1,.int .i64 1,.bool false,.bool false,.bool false,.int .u64 1,.int .i64 1,.int .i64 0,.string ⟨#[]⟩,.int .i64 0,.int .i64 0,.string ⟨#[47,47,100,47,98]⟩,.int .i64 1,.int .i64 1,.bool false,.bool false,.bool false,.int .u64 1,.int .i64 1,.int .i64 0,.string ⟨#[]⟩,.int .i64 0,.int .i64 0] 90 12 2 rfl (by decide) _ rfl))
 have HB4:=hd_ (zcf HB3.out (.cells #[.string ⟨#[47,47,100,47,97]⟩,.int .i64 1,.int .i64 1,.bool false,.bool false,.bool false,.int .u64 1,.int .i64 1,.int .i64 0,.string ⟨#[]⟩,.int .i64 0,.int .i64 0,.string ⟨#[47,47,100,47,98]⟩,.int .i64 1,.int .i64 1,.bool false,.bool false,.bool false,.int .u64 1,.int .i64 1,.int .i64 0,.string ⟨#[]⟩,.int .i64 0,.int .i64 0] 90));clear hy3 hx3 HB3;go_wp2_with fail;refine HAP.out.mono ?_;rintro e w5 ⟨A,c,A2,c2,rfl,hR5,hb5⟩;dsimp only;have HB5:=hd_ (z0r HB4.out hb5);have HR5:=hd_ hR5;clear x0 x1 x2 x3 x4 x5 x6 x7 x8 x9 x10 x11 y0 y1 y2 y3 y4 y5 y6 y7 y8 y9 y10 y11 hy3' hR5 hb5 HAP HB4;go_upto_region 5 with fail;have HX6:=hd_ (z0l w5 [.slice A 2 c,.slice A2 0 c2] 26);have ha6:Below w5.heap.size w5 (w5.alloc (.cells #[.slice A 2 c,.slice A2 0 c2] 26)):=(Below.refl _ _).alloc (Nat.le_refl _) _;have HB6:=hd_ (z0r HB5.out ha6);have HR6:=hd_ (HR5.out.below ha6);clear ha6 HR5 HB5;generalize w5.alloc (.cells #[.slice A 2 c,.slice A2 0 c2] 26)=W6 at HX6 HB6 HR6 ⊢;generalize w5.heap.size=g6 at HX6 ⊢;go_upto_region 6 with fail;have hP1:=z0l W6 [.string ⟨#[100]⟩] 9;have hP2:=z0l (W6.alloc (.cells #[.string ⟨#[100]⟩] 9)) [.string ⟨#[99]⟩] 9;have ha7:Below W6.heap.size W6 (W6.alloc (.cells #[.string ⟨#[100]⟩] 9)):=(Below.refl _ _).alloc (Nat.le_refl _) _;have ha8:=zcf ha7 (.cells #[.string ⟨#[99]⟩] 9);have hP3:=hP1.alloc (.cells #[.string ⟨#[99]⟩] 9);rw[World.size_alloc] at hP2;have HM:=hd_ (zgm (n:=1) (cs:=[.slice (some ⟨W6.heap.size,0,none⟩) 1 1,.bool true,.slice (some ⟨W6.heap.size+1,0,none⟩) 1 1,.bool true,.slice none 0 0]) (es:=([⟨(⟨[zg1 100],true⟩,some ⟨W6.heap.size,0,none⟩,1),(⟨[zg1 99],true⟩,some ⟨W6.heap.size+1,0,none⟩,1),.slice none 0 0,[]⟩]:List zd8)) ha8 rfl rfl (by show 1≤1000;omega) (by
  intro x hx;simp only[List.mem_cons,List.not_mem_nil,or_false] at hx
  subst hx;exact⟨zgk (l:=[zg1 100]) hP3 rfl (by decide) (by decide),zgk (l:=[zg1 99]) hP2 rfl (by decide) (by decide),zgl _,Nat.zero_le _⟩))
 have hes:([⟨(⟨[zg1 100],true⟩,some ⟨W6.heap.size,0,none⟩,1),(⟨[zg1 99],true⟩,some ⟨W6.heap.size+1,0,none⟩,1),.slice none 0 0,[]⟩]:List zd8).map zd8.pl=zg3 0:=rfl;generalize ([⟨(⟨[zg1 100],true⟩,some ⟨W6.heap.size,0,none⟩,1),(⟨[zg1 99],true⟩,some ⟨W6.heap.size+1,0,none⟩,1),.slice none 0 0,[]⟩]:List zd8)=es at HM hes;have HES:=hd_ hes;simp only[World.size_alloc] at HM
 clear hP1 hP2 hP3 ha7 ha8 hes;have HB9:=hd_ (z0r HB6.out HM.out.2);have HR9:=hd_ (HR6.out.below HM.out.2);have HX9:=hd_ (HX6.out.below HM.out.2 HX6.out.lt);have HM9:=hd_ HM.out.1;clear HM HB6 HR6 HX6;(try simp only[World.size_alloc])
 generalize ((W6.alloc (.cells #[.string ⟨#[100]⟩] 9)).alloc (.cells #[.string ⟨#[99]⟩] 9)).alloc (.cells #[.slice (some ⟨W6.heap.size,0,none⟩) 1 1,.bool true,.slice (some ⟨W6.heap.size+1,0,none⟩) 1 1,.bool true,.slice none 0 0] 100)=W9 at HB9 HR9 HX9 HM9 ⊢;generalize W6.heap.size+1+1=g9 at HM9 ⊢;go_upto_region 7 with fail;have hH:=z0i W9 [.string ⟨#[47,47,100,47,97]⟩,.int .i64 1,.string ⟨#[47,47,99,47,98]⟩,.string ⟨#[47,47,100,47,98]⟩,.int .i64 1,.string ⟨#[47,47,99,47,97]⟩] 44 3 2 rfl (by decide) _ rfl
 have ha10:Below W9.heap.size W9 (W9.alloc (.cells #[.string ⟨#[47,47,100,47,97]⟩,.int .i64 1,.string ⟨#[47,47,99,47,98]⟩,.string ⟨#[47,47,100,47,98]⟩,.int .i64 1,.string ⟨#[47,47,99,47,97]⟩] 44)):=(Below.refl _ _).alloc (Nat.le_refl _) _;have HB10:=hd_ (z0r HB9.out ha10);have HR10:=hd_ (HR9.out.below ha10);have HX10:=hd_ (HX9.out.below ha10 HX9.out.lt);have HM10:=hd_ (HM9.out.below ha10);have HH10:Hid (z4b _ _ knH):=hd_ hH;clear hH ha10 HB9 HR9 HX9 HM9;generalize W9.alloc (.cells #[.string ⟨#[47,47,100,47,97]⟩,.int .i64 1,.string ⟨#[47,47,99,47,98]⟩,.string ⟨#[47,47,100,47,98]⟩,.int .i64 1,.string ⟨#[47,47,99,47,97]⟩] 44)=W10 at HB10 HR10 HX10 HM10 HH10 ⊢;generalize W9.heap.size=g10 at HH10 ⊢;obtain⟨x0,x1,-,-⟩:=box2 HX10.out;have hO:=z0i W10 [.string ⟨#[47,47,100,47,98]⟩] 9 1 1 rfl (by decide) _ rfl
 have ha11:Below W10.heap.size W10 (W10.alloc (.cells #[.string ⟨#[47,47,100,47,98]⟩] 9)):=(Below.refl _ _).alloc (Nat.le_refl _) _;have HB11:=hd_ (z0r HB10.out ha11);have HPL:=hd_ (zn3 (hs:=knH) (op:=[knB]) (dt:=[]) (dr:=.slice A2 0 c2) (kn_plOk HES.out) 1 (HE.out.below HB11.out) (HR10.out.below ha11) (HM10.out.below ha11) (HH10.out.below ha11) kn_hav (by decide) hO (Row.nil_ _ 1) (by decide) (by decide))
 rw[kn_fwd HES.out,kn_plan] at HPL;clear hO ha11 HB10 HR10 HX10 HM10 HH10;go_wp2_with fail;refine HPL.out.mono ?_;rintro e w12 ⟨pv,rfl,hp,hb⟩;dsimp only;have HB12:=hd_ (z0r HB11.out hb);have hS:=z0i w12 [.int .i64 5,.string ⟨#[47,47,100,47,97]⟩,.int .i64 1,.string ⟨#[47,47,99,47,98]⟩,.string ⟨#[47,47,99,47,97]⟩,.int .i64 6,.string ⟨#[47,47,100,47,98]⟩,.int .i64 1,.string ⟨#[47,47,99,47,97]⟩,.string ⟨#[47,47,99,47,98]⟩] 48 5 2 rfl (by decide) _ rfl
 have ha13:Below w12.heap.size w12 (w12.alloc (.cells #[.int .i64 5,.string ⟨#[47,47,100,47,97]⟩,.int .i64 1,.string ⟨#[47,47,99,47,98]⟩,.string ⟨#[47,47,99,47,97]⟩,.int .i64 6,.string ⟨#[47,47,100,47,98]⟩,.int .i64 1,.string ⟨#[47,47,99,47,97]⟩,.string ⟨#[47,47,99,47,98]⟩] 48)):=(Below.refl _ _).alloc (Nat.le_refl _) _;have HB13:=hd_ (z0r HB12.out ha13);have HSM:=hd_ (znd _ _ _ _ (hp.below ha13) hS);clear hp hb hS ha13 HPL HB11 x0 x1;go_wp2_with fail;refine HSM.out.mono ?_;rintro e w14 ⟨rfl,hb⟩;have HB14:=hd_ (z0r HB13.out hb);clear hb HSM;go_wp2_with fail;go_ret;exact⟨rfl,HB14.out⟩
theorem zre (ex:Bool)(l r:Pat)(s:ByteArray)(A B:Option Addr)(a b:Nat)(w:World)(he:Env w)(hs:s.size≤1000000)(hl:za9 w (.slice A l.parts.length a) l)(hr:za9 w (.slice B r.parts.length b) r)(h0:za8 l r=0)(hf:∀ caps,z8e r s=some caps→zbv l caps):
  Calls prog 57 #[.agg #[.bool ex,.slice A l.parts.length a,.bool l.rest,.slice B r.parts.length b,.bool r.rest],.string s] w (zc3 w (zc2 r l s)):=by
 have hB:=z0l w [.bool ex,.slice A l.parts.length a,.bool l.rest,.slice B r.parts.length b,.bool r.rest] 119;have hA:Below w.heap.size w (w.alloc (.cells #[.bool ex,.slice A l.parts.length a,.bool l.rest,.slice B r.parts.length b,.bool r.rest] 119)):=(Below.refl _ _).alloc (Nat.le_refl _) _;have HC:=hd_ (fun X (hX:Below w.heap.size w X)=>zaa ex l r A B a b X (hl.below hX) (hr.below hX));rw[h0] at HC;have HT:=hd_ (fun X (hX:Below w.heap.size w X)=>zc4 r l s B A b a X (he.below hX) hs (hr.below hX) (hl.below hX) hf);clear he hl hr hf h0;generalize zc2 r l s=o at HT ⊢;go_enter func57,ntmps57;go_upto_region 1 with fail;generalize w.alloc (.cells #[.bool ex,.slice A l.parts.length a,.bool l.rest,.slice B r.parts.length b,.bool r.rest] 119)=W1 at hA hB ⊢;obtain⟨d0,d1,d2,d3,d4⟩:=(⟨hB.cell 0,hB.cell 1,hB.cell 2,hB.cell 3,hB.cell 4⟩:W1.cell? ⟨w.heap.size,0,none⟩=some (.bool ex)∧W1.cell? ⟨w.heap.size,1,none⟩=some (.slice A l.parts.length a)∧W1.cell? ⟨w.heap.size,2,none⟩=some (.bool l.rest)∧W1.cell? ⟨w.heap.size,3,none⟩=some (.slice B r.parts.length b)∧W1.cell? ⟨w.heap.size,4,none⟩=some (.bool r.rest));have HB:=hd_ hB;have HA:=hd_ hA;have HC1:=hd_ (HC.out W1 hA);clear hA hB HC;go_wp2_with fail;refine HC1.out.mono ?_;rintro e w2 ⟨rfl,hb⟩;have hB2:=HB.out.below hb HB.out.lt;have HB2:=hd_ (z0r HA.out hb);have HT2:=hd_ (HT.out w2 HB2.out);clear hb d0 d1 d2 d3 d4 HC1 HT;obtain⟨d1,d2,d3,d4⟩:=(⟨hB2.cell 1,hB2.cell 2,hB2.cell 3,hB2.cell 4⟩:w2.cell? ⟨w.heap.size,1,none⟩=some (.slice A l.parts.length a)∧w2.cell? ⟨w.heap.size,2,none⟩=some (.bool l.rest)∧w2.cell? ⟨w.heap.size,3,none⟩=some (.slice B r.parts.length b)∧w2.cell? ⟨w.heap.size,4,none⟩=some (.bool r.rest));clear hB2;go_wp2_with fail;refine HT2.out.mono ?_;rintro e w3 ⟨rfl,hb⟩;have HB3:=hd_ (z0r HB2.out hb);clear hb d1 d2 d3 d4;go_wp2_with fail;go_ret2;exact⟨rfl,HB3.out⟩
section
variable {α : Type} {k : α → ByteArray} {f : ByteArray → Option α}
def zqu (f:ByteArray→Option α)(i:Nat):Nat:=((zff.take i).filterMap f).length
theorem cnt_0:zqu f 0=0:=rfl
theorem cnt_le (i:Nat):zqu f i≤i:=by
 unfold zqu;exact Nat.le_trans (List.length_filterMap_le _ _) (by rw[List.length_take];exact Nat.min_le_left _ _)
theorem zrc:zqu f 6=(zff.filterMap f).length:=rfl
theorem zqv (i:Nat)(hi:i<zff.length):zff.filterMap f=(zff.take i).filterMap f++((f (zff[i]'hi)).toList++(zff.drop (i+1)).filterMap f):=by
 have e:zff=zff.take i++zff[i]'hi :: zff.drop (i+1):=by
  rw[List.getElem_cons_drop,List.take_append_drop]
 conv=>lhs;rw[e]
 rw[List.filterMap_append,List.filterMap_cons];cases h:f (zff[i]'hi) with
 | none=>simp
 | some a=>simp
theorem zrd {i:Nat}{a:α}(hi:i<zff.length)(h:f (zff[i]'hi)=some a):zqu f (i+1)=zqu f i+1∧∃ hn:zqu f i<(zff.filterMap f).length,(zff.filterMap f)[zqu f i]'hn=a:=by
 have e:=zqv (f:=f) i hi;rw[h] at e;refine⟨?_,?_⟩
 ·unfold zqu;rw[zqr f zff i hi,h,List.length_append];rfl
 ·have hn:zqu f i<(zff.filterMap f).length:=by
   rw[e,List.length_append,List.length_append];unfold zqu;simp
   omega
  refine⟨hn,?_⟩;have:(zff.filterMap f)[zqu f i]? = some a:=by
   unfold zqu;rw[e,List.getElem?_append_right (Nat.le_refl _)];simp
  rw[List.getElem?_eq_getElem hn] at this;exact Option.some.inj this
theorem cnt_no {i:Nat}(hk:∀ q a,f q=some a→k a=q)(hi:i<zff.length)(h:f (zff[i]'hi)=none):zqu f (i+1)=zqu f i∧∀ hn:zqu f i<(zff.filterMap f).length,k ((zff.filterMap f)[zqu f i]'hn)≠zff[i]'hi:=by
 have e:=zqv (f:=f) i hi;rw[h] at e;refine⟨?_,fun hn he=>?_⟩
 ·unfold zqu;rw[zqr f zff i hi,h,List.length_append];rfl
 ·have h1:(zff.filterMap f)[zqu f i]? = ((zff.drop (i+1)).filterMap f)[0]?:=by
   unfold zqu;rw[e,List.getElem?_append_right (Nat.le_refl _)];simp
  rw[List.getElem?_eq_getElem hn] at h1;have h2:=List.mem_of_getElem? h1.symm;obtain⟨q,hq,e2⟩:=List.mem_filterMap.1 h2;rw[hk q _ e2] at he;rw[he] at hq;obtain⟨j,hj,e3⟩:=List.mem_iff_getElem.1 hq;rw[List.getElem_drop] at e3;have hj':i+1+j<zff.length:=by
   rw[List.length_drop] at hj;omega
  have:=List.pairwise_iff_getElem.1 zfg i (i+1+j) hi hj' (by omega)
  exact z5z this e3.symm
end
end Go.Proofs.YtegeboijhifmcaaGreatDoor
