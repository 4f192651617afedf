/- syncplan.result: any have-list, any plan: the walk. -/
import Derived.Test.YtegeboijhifmcaaGreatDoorMgw26
import Derived.Test.YtegeboijhifmcaaGreatDoorMzDfB
import Derived.Test.YtegeboijhifmcaaGreatDoorMgw15
import Derived.Test.YtegeboijhifmcaaGreatDoorMgw31
import Derived.Test.YtegeboijhifmcaaGreatDoorMgw11
namespace Go.Proofs.YtegeboijhifmcaaGreatDoor
set_option linter.unusedVariables false
set_option linter.unusedSimpArgs false
set_option maxHeartbeats 8000000
set_option maxRecDepth 100000
open Go.RowKit
open Go.Sort (grow)
def ReO (w wr:World)(hs:List Hav)(ss:List Syn)(k:Nat)(A:Option Addr)(c n:Nat):Prop:=
 ∃(O:List Hav) (ps:List Syn) (v:Value),n=ps.length∧z4z w (.slice A n c) ps∧(∀ x∈ps,x∈ss)∧ps.length≤ss.length∧Aft w wr w.heap.size O v∧O++z4y (hs.drop k) ps=z4y hs ss
structure ReI (w wr:World)(hs:List Hav)(ss:List Syn)(k g:Nat)(h:Hav)(O:List Hav)(ps:List Syn)(v:Value):Prop where
 aft:Aft w wr w.heap.size O v
 box:Blk wr g 44 [.string h.path,.int .i64 h.num,.string h.loc]
 off:v.ownBlock≠some g
 gne:g≠w.heap.size
 len:ps.length≤ss.length
 eq:O++zjc h (hs.drop (k+1)) ps=z4y hs ss
theorem ReI.under {w wr X:World}{hs:List Hav}{ss:List Syn}{k g:Nat}{h:Hav}{O:List Hav}{ps:List Syn}{v:Value}(H:ReI w wr hs ss k g h O ps v)(hb:Below wr.heap.size wr X):ReI w X hs ss k g h O ps v:=
 ⟨H.aft.under hb,H.box.below hb H.box.lt,H.off,H.gne,H.len,H.eq⟩
theorem ReI.pop0 {w wr:World}{hs:List Hav}{ss:List Syn}{k g:Nat}{h:Hav}{O:List Hav}{x:Syn}{r:List Syn}{v:Value}(H:ReI w wr hs ss k g h O (x :: r) v)(hc:z2u x.path h.path<0)(hp:z4t x=[]):ReI w wr hs ss k g h O r v:=
 ⟨H.aft,H.box,H.off,H.gne,by have:=H.len;rw[List.length_cons] at this;omega,by rw[← H.eq,zjd hc,hp];rfl⟩
theorem ReI.pop1 {w wr w3:World}{hs:List Hav}{ss:List Syn}{k g:Nat}{h:Hav}{O:List Hav}{x:Syn}{r:List Syn}{v v3:Value}(H:ReI w wr hs ss k g h O (x :: r) v)(hc:z2u x.path h.path<0)(hp:z4t x=z4s x)
  (hA:Aft w w3 w.heap.size (O++z4s x) v3) (hK:Kp w.heap.size wr w3 v v3):ReI w w3 hs ss k g h (O++z4s x) r v3:=by
 obtain⟨b1,b2⟩:=hK.blk H.box H.gne H.off;exact⟨hA,b1,b2,H.gne,by have:=H.len;rw[List.length_cons] at this;omega,by rw[← H.eq,zjd hc,hp,List.append_assoc]⟩
theorem ReI.room {w wr:World}{hs:List Hav}{ss:List Syn}{k g:Nat}{h:Hav}{O:List Hav}{ps:List Syn}{v:Value}(H:ReI w wr hs ss k g h O ps v)(hl:hs.length+ss.length+1≤1000000):(O.length+1) * 40≤140737488355328:=
 zjk H.eq (zjj hs ss) hl
theorem zjl (hs:List Hav)(ss:List Syn)(hv pv:Value)(w:World)(hH:z4b w hv hs)(hS:z4z w pv ss)(hz:∀ x∈hs,x.path.size≤1000000)(hz2:∀ x∈ss,x.path.size≤1000000)(hl:hs.length+2 * ss.length+1≤1000000):
  Calls Tryz.prog 39 #[hv,pv] w fun e w'=>∃ v,e=.returned v∧z4b w' v (z4y hs ss)∧Below w.heap.size w w':=by
 obtain⟨Ah,ch,rfl,-⟩:=id hH;obtain⟨A1,c1,rfl,-⟩:=id hS;have hO:ReO w (w.alloc (.cells #[.slice none 0 0] 28)) hs ss 0 A1 c1 ss.length:=⟨[],ss,.slice none 0 0,rfl,hS,fun _ h=>h,Nat.le_refl _,⟨(Below.refl _ _).alloc (Nat.le_refl _) _,z0l w [.slice none 0 0] _,World.ownsRow_nil _ _ _ _⟩,rfl⟩;have HO:=hd_ hO;have HH:=hd_ hH;have HZ:=hd_ hz;have HZ2:=hd_ hz2;have HL:=hd_ hl;have hkb:hs.length≤1000000:=by omega
 have HL2:=hd_ (show hs.length+ss.length+1≤1000000 by omega)
 clear hH hS hz hz2 hl hO;go_enter Tryz.func39,Tryz.ntmps39;go_wp2_with fail;go_loopw [1,14] (fun p i wr=>∃(k:Nat) (A:Option Addr) (c n:Nat),k≤hs.length∧p=.slice A n c∧i=.int .i64 k∧Hid (ReO w wr hs ss k A c n)) (fun _ i _=>hs.length - (intOf i).toNat)
 case atStart=>exact⟨0,A1,c1,ss.length,Nat.zero_le _,rfl,rfl,HO⟩
 case round =>
  obtain⟨k,A,c,n,hk,rfl,rfl,HI⟩:=hrel;rename ∀ a w,Code.wp _ (Code.seq (Code.seq (Code.region 17 _ _) _) _) _ a w→_=>hkk
  have HKK:=hd_ hkk;clear hkk;obtain⟨O,ps,v,rfl,hps,hmem,hpl,hA,heq⟩:=HI.out;by_cases hlt:k<hs.length
  ·obtain⟨ad,rfl,hab,y0,y1,y2⟩:=z4b.at_ (HH.out.below hA.bel) hlt;have hzk:=HZ.out hs[k] (List.getElem_mem _);rw[List.drop_eq_getElem_cons hlt] at heq;generalize hs[k]=h at y0 y1 y2 heq hzk;have HP:=hd_ hps;have HX0:Hid (ReI w (wr.alloc (.cells #[.string h.path,.int .i64 h.num,.string h.loc] 44)) hs ss k wr.heap.size h O ps v):=hd_ ⟨hA.alloc _,z0l wr [.string h.path,.int .i64 h.num,.string h.loc] _,fun e=>by have:=(hA.row.lt _ e).2;omega,by have:=hA.box.lt;omega,hpl,heq⟩
   clear hps hA heq HI HO;go_wp2_with fail;clear y0 y1 y2 hab;generalize wr.heap.size=g at HX0 ⊢;go_loopw [1] (fun p wq=>∃(A:Option Addr) (c n:Nat) (O:List Hav) (ps:List Syn) (v:Value),p=.slice A n c∧n=ps.length∧Hid (z4z w (.slice A n c) ps)∧(∀ x∈ps,x∈ss)∧Hid (ReI w wq hs ss k g h O ps v)) (fun p _=>ziv p)
   case atStart=>exact⟨A,c,ps.length,O,ps,v,rfl,rfl,HP,hmem,HX0⟩
   case round =>
    obtain⟨A,c,n,O,ps,v,rfl,hn,HP2,hmem2,HR⟩:=hrel;cases ps with
    | nil =>
     have hn':n=0:=hn;have n0:decide (0<n)=false:=by simp;omega
     have HN:=hd_ hn';clear hn hn';go_wp2_with fail;refine wp_region_quiet_below (by kernel_rfl) (by kernel_rfl) ?_
     repeat (first | go_big_quiet_step (fail) | quiet_step (fail))
     refine wpQuiet_nil ?_;intro _ hw9;obtain⟨⟨dq,osq⟩,hw9⟩:=hw9;subst hw9;have HR1:=hd_ (HR.out.under (below_regrown wr dq osq));generalize grow (redrawn wr dq) osq=W1 at HR1 ⊢;go_wp2_with fail;refine wp_region_quiet_below (by kernel_rfl) (by kernel_rfl) ?_
     repeat (first | go_big_quiet_step (fail) | quiet_step (fail))
     refine wpQuiet_nil ?_;intro _ hw9;obtain⟨⟨dq,osq⟩,hw9⟩:=hw9;subst hw9;have HR2:=hd_ (HR1.out.under (below_regrown W1 dq osq));generalize grow (redrawn W1 dq) osq=W2 at HR2 ⊢;have HA2:=hd_ (HR2.out.aft.alloc (.cells #[.string h.path,.int .i64 h.num,.string h.loc] 44));have hbx:W2.cell? ⟨w.heap.size,0,none⟩=some v:=HR2.out.aft.box.cell 0;obtain⟨d0,d1,d2⟩:=z3s (x:=h) HR2.out.box;have hrm:=HR2.out.room HL2.out;have hrow:=z0i W2 [.string h.path,.int .i64 h.num,.string h.loc] 44 3 1 rfl (by unfold maxLen;omega) W2.heap.size rfl
     have hsz:w.heap.size+1≤(W2.alloc (.cells #[.string h.path,.int .i64 h.num,.string h.loc] 44)).heap.size:=by have:=HR2.out.aft.box.lt;simp;omega
     obtain⟨A0,c0,rfl⟩:=z0o HR2.out.aft.row;go_wp2_with (at_builtin;refine z0j rfl rfl z54 HA2.out.row rfl hrow rfl (z55 h) hrm (by unfold maxLen;omega) hsz ?_;intro A' c' w2 hown hgr hob;obtain⟨hA3,hK3⟩:=HA2.out.push (x:=h) hown hgr hob;have hbw:=Blk.grown HA2.out.box hgr (fun e=>by have:=(HA2.out.row.lt w.heap.size e.symm).1;omega);have hfz:=hbw.frozen 0;have hcl:w2.cell? ⟨w.heap.size,0,none⟩=some (.slice A0 O.length c0):=hbw.cell 0)
     go_roundw
     case rel=>exact⟨k+1,A,c,n,by omega,rfl,by go_num,hd_ ⟨O++[h],[],_,HN.out,HP2.out,fun _ h=>(by cases h),Nat.zero_le _,hA3,by rw[← HR2.out.eq,zje,List.append_assoc];rfl⟩⟩
     case measure=>simp [intOf];omega
    | cons x r =>
     obtain rfl:n=r.length+1:=hn
     obtain⟨-,ad2,rfl,-,-⟩:=HP2.out.head;have HT2:=hd_ HP2.out.tail2;have hxs:=(HZ2.out x (hmem2 x List.mem_cons_self));have HMR:Hid (∀ z∈r,z∈ss):=hd_ (fun z hz=>hmem2 z (List.mem_cons_of_mem _ hz));have HX0X:Hid (x∈ss):=hd_ (hmem2 x List.mem_cons_self);have HLE:Hid (r.length≤ss.length):=hd_ (by have:=HR.out.len;rw[List.length_cons] at this;omega)
     have HSY:Hid (∀ X,Below w.heap.size w X→z50 X ad2 x):=hd_ (fun X hX=>by
      obtain⟨-,ad3,e3,-,h3⟩:=(HP2.out.below hX).head;injection e3 with e3
      subst e3;exact h3)
     have hz0:(0:Int)<((r.length+1:Nat):Int):=by omega
     obtain⟨s0,s1,s2,s3,s4⟩:=HSY.out wr (HR.out.aft.bel);have e1:=cell_regrown s1;have b0:=cell_regrown (z3s (x:=h) HR.out.box).1;have HCMP:=hd_ (fun X=>z41 x.path h.path X (by omega) (by omega))
     have cC:∀ d os,Calls Tryz.prog 45 #[.string x.path,.string h.path] (grow (redrawn wr d) os) fun e w''=>e=.returned (.int .i64 (z2u x.path h.path))∧∃ p:Regrown,w''=grow (redrawn wr p.d) p.os:=fun d os=>Calls.regrown_of ((HCMP.out (grow (redrawn wr d) os)).mono (by rintro e w5 ⟨rfl,n5,rfl⟩;exact⟨rfl,below_drewN _ _⟩))
     generalize hcv:z2u x.path h.path=cv at cC;by_cases hlc:cv<0
     ·have n2:decide (cv<0)=true:=decide_eq_true hlc;have HLC:Hid (z2u x.path h.path<0):=hd_ (by rw[hcv];exact hlc)
      clear hcv hlc s0 s1 s2 s3 s4;go_wp2_with fail;refine wp_region_quiet_below (by kernel_rfl) (by kernel_rfl) ?_
      repeat (first | go_big_quiet_step (exact cC _ _) | quiet_step (exact cC _ _))
      refine wpQuiet_nil ?_;intro _ hw9;obtain⟨⟨dq,osq⟩,hw9⟩:=hw9;subst hw9;have HR1:=hd_ (HR.out.under (below_regrown wr dq osq));generalize grow (redrawn wr dq) osq=W1 at HR1 ⊢;clear e1 b0 cC n2;obtain⟨s0,s1,s2,s3,s4⟩:=HSY.out W1 (HR1.out.aft.bel);have HST:=hd_ (z3u x W1);cases hst:z3o x.kind with
      | true =>
       have HPU:Hid (z4t x=[]):=hd_ (by unfold z4t;rw[hst];rfl)
       rw[hst] at HST;clear hst;go_wp2_with fail;refine HST.out.mono ?_;rintro e w5 ⟨rfl,hb⟩;have HR2:=hd_ (HR1.out.under hb);clear hb;clear s0 s1 s2 s3 s4;go_wp2_with fail;go_roundw
       case rel=>exact⟨_,_,_,O,r,v,rfl,rfl,HT2,HMR.out,hd_ (HR2.out.pop0 HLC.out HPU.out)⟩
       case measure=>first | (simp [ziv];done) | (simp [ziv];omega)
      | false =>
       have HPU:Hid (z4t x=z4s x):=hd_ (by unfold z4t;rw[hst];rfl)
       rw[hst] at HST;clear hst;go_wp2_with fail;refine HST.out.mono ?_;rintro e w5 ⟨rfl,hb⟩;have HR2:=hd_ (HR1.out.under hb);clear hb;clear s0 s1 s2 s3 s4;obtain⟨s0,s1,s2,s3,s4⟩:=HSY.out w5 (HR2.out.aft.bel);have HAD:=hd_ (z58 x w w5 w.heap.size _ v HR2.out.aft (HR2.out.room HL2.out));go_wp2_with fail;refine HAD.out.mono ?_;rintro e w6 ⟨rfl,v6,h6,k6⟩;have HR3:=hd_ (HR2.out.pop1 HLC.out HPU.out h6 k6);clear h6 k6;clear s0 s1 s2 s3 s4;go_wp2_with fail;go_roundw
       case rel=>exact⟨_,_,_,O++z4s x,r,v6,rfl,rfl,HT2,HMR.out,HR3⟩
       case measure=>first | (simp [ziv];done) | (simp [ziv];omega)
     ·have n2:decide (cv<0)=false:=decide_eq_false hlc;have HLC:Hid (0≤z2u x.path h.path):=hd_ (by rw[hcv];exact Int.not_lt.1 hlc)
      clear hcv hlc s0 s1 s2 s3 s4;go_wp2_with fail;refine wp_region_quiet_below (by kernel_rfl) (by kernel_rfl) ?_
      repeat (first | go_big_quiet_step (exact cC _ _) | quiet_step (exact cC _ _))
      refine wpQuiet_nil ?_;intro _ hw9;obtain⟨⟨dq,osq⟩,hw9⟩:=hw9;subst hw9;have HR1:=hd_ (HR.out.under (below_regrown wr dq osq));generalize grow (redrawn wr dq) osq=W1 at HR1 ⊢;clear e1 b0 cC n2;obtain⟨s0,s1,s2,s3,s4⟩:=HSY.out W1 (HR1.out.aft.bel);have e1:=cell_regrown s1;have b0:=cell_regrown (z3s (x:=h) HR1.out.box).1;have q:=z3x x.path h.path;clear s0 s1 s2 s3 s4;by_cases hp:x.path=h.path
      ·rw[decide_eq_true hp] at q;have HPE:=hd_ hp;clear hp;go_wp2_with fail;refine wp_region_quiet_below (by kernel_rfl) (by kernel_rfl) ?_
       repeat (first | go_big_quiet_step (fail) | quiet_step (fail))
       refine wpQuiet_nil ?_;intro _ hw9;obtain⟨⟨dq,osq⟩,hw9⟩:=hw9;subst hw9;have HR2:=hd_ (HR1.out.under (below_regrown W1 dq osq));generalize grow (redrawn W1 dq) osq=W2 at HR2 ⊢;clear e1 b0;obtain⟨s0,s1,s2,s3,s4⟩:=HSY.out W2 (HR2.out.aft.bel);have HST:=hd_ (z3u x W2);cases hst:z3o x.kind with
       | true =>
        have HM:=hd_ (zjf (hs:=hs.drop (k+1)) (r:=r) (Int.not_lt.2 HLC.out) HPE.out hst);rw[hst] at HST;clear hst;go_wp2_with fail;refine HST.out.mono ?_;rintro e w5 ⟨rfl,hb⟩;have HR3:=hd_ (HR2.out.under hb);clear hb;clear s0 s1 s2 s3 s4;have HA2:=hd_ (HR3.out.aft.alloc (.cells #[.string h.path,.int .i64 h.num,.string h.loc] 44));have hbx:w5.cell? ⟨w.heap.size,0,none⟩=some v:=HR3.out.aft.box.cell 0;obtain⟨d0,d1,d2⟩:=z3s (x:=h) HR3.out.box;have hrm:=HR3.out.room HL2.out;have hrow:=z0i w5 [.string h.path,.int .i64 h.num,.string h.loc] 44 3 1 rfl (by unfold maxLen;omega) w5.heap.size rfl
        have hsz:w.heap.size+1≤(w5.alloc (.cells #[.string h.path,.int .i64 h.num,.string h.loc] 44)).heap.size:=by have:=HR3.out.aft.box.lt;simp;omega
        obtain⟨A0,c0,rfl⟩:=z0o HR3.out.aft.row;go_wp2_with (at_builtin;refine z0j rfl rfl z54 HA2.out.row rfl hrow rfl (z55 h) hrm (by unfold maxLen;omega) hsz ?_;intro A' c' w2 hown hgr hob;obtain⟨hA3,hK3⟩:=HA2.out.push (x:=h) hown hgr hob;have hbw:=Blk.grown HA2.out.box hgr (fun e=>by have:=(HA2.out.row.lt w.heap.size e.symm).1;omega);have hfz:=hbw.frozen 0;have hcl:w2.cell? ⟨w.heap.size,0,none⟩=some (.slice A0 O.length c0):=hbw.cell 0)
        have HN:=hd_ hA3;clear hK3 hbw hfz hcl;go_wp2_with fail;go_roundw
        case rel=>exact⟨k+1,_,_,_,by omega,rfl,by go_num,hd_ ⟨O++[h],r,_,rfl,HT2.out,HMR.out,HLE.out,HN.out,by rw[← HR2.out.eq,HM.out,List.append_assoc];rfl⟩⟩
        case measure=>simp [intOf];omega
       | false =>
        have HM:=hd_ (resM_go (hs:=hs.drop (k+1)) (r:=r) (Int.not_lt.2 HLC.out) HPE.out hst);rw[hst] at HST;clear hst;go_wp2_with fail;refine HST.out.mono ?_;rintro e w5 ⟨rfl,hb⟩;have HR3:=hd_ (HR2.out.under hb);clear hb;clear s0 s1 s2 s3 s4;obtain⟨s0,s1,s2,s3,s4⟩:=HSY.out w5 (HR3.out.aft.bel);have HAD:=hd_ (z58 x w w5 w.heap.size _ v HR3.out.aft (HR3.out.room HL2.out));go_wp2_with fail;refine HAD.out.mono ?_;rintro e w6 ⟨rfl,v6,h6,k6⟩;have HN:=hd_ h6;clear h6 k6;clear s0 s1 s2 s3 s4;go_wp2_with fail;go_roundw
        case rel=>exact⟨k+1,_,_,_,by omega,rfl,by go_num,hd_ ⟨O++z4s x,r,_,rfl,HT2.out,HMR.out,HLE.out,HN.out,by rw[← HR2.out.eq,HM.out,List.append_assoc]⟩⟩
        case measure=>simp [intOf];omega
      ·have HM:=hd_ (zjg (hs:=hs.drop (k+1)) (r:=r) (Int.not_lt.2 HLC.out) hp);rw[decide_eq_false hp] at q;clear hp;go_wp2_with fail;refine wp_region_quiet_below (by kernel_rfl) (by kernel_rfl) ?_
       repeat (first | go_big_quiet_step (fail) | quiet_step (fail))
       refine wpQuiet_nil ?_;intro _ hw9;obtain⟨⟨dq,osq⟩,hw9⟩:=hw9;subst hw9;have HR2:=hd_ (HR1.out.under (below_regrown W1 dq osq));generalize grow (redrawn W1 dq) osq=W2 at HR2 ⊢;clear e1 b0;have HA2:=hd_ (HR2.out.aft.alloc (.cells #[.string h.path,.int .i64 h.num,.string h.loc] 44));have hbx:W2.cell? ⟨w.heap.size,0,none⟩=some v:=HR2.out.aft.box.cell 0;obtain⟨d0,d1,d2⟩:=z3s (x:=h) HR2.out.box;have hrm:=HR2.out.room HL2.out;have hrow:=z0i W2 [.string h.path,.int .i64 h.num,.string h.loc] 44 3 1 rfl (by unfold maxLen;omega) W2.heap.size rfl
       have hsz:w.heap.size+1≤(W2.alloc (.cells #[.string h.path,.int .i64 h.num,.string h.loc] 44)).heap.size:=by have:=HR2.out.aft.box.lt;simp;omega
       obtain⟨A0,c0,rfl⟩:=z0o HR2.out.aft.row;go_wp2_with (at_builtin;refine z0j rfl rfl z54 HA2.out.row rfl hrow rfl (z55 h) hrm (by unfold maxLen;omega) hsz ?_;intro A' c' w2 hown hgr hob;obtain⟨hA3,hK3⟩:=HA2.out.push (x:=h) hown hgr hob;have hbw:=Blk.grown HA2.out.box hgr (fun e=>by have:=(HA2.out.row.lt w.heap.size e.symm).1;omega);have hfz:=hbw.frozen 0;have hcl:w2.cell? ⟨w.heap.size,0,none⟩=some (.slice A0 O.length c0):=hbw.cell 0)
       have HN:=hd_ hA3;go_roundw
       case rel=>exact⟨k+1,some ad2,c,r.length+1,by omega,rfl,by go_num,hd_ ⟨O++[h],x :: r,_,rfl,HP2.out,fun z hz=>by rcases List.mem_cons.1 hz with rfl | hz;exact HX0X.out;exact HMR.out z hz,HR2.out.len,HN.out,by rw[← HR2.out.eq,HM.out,List.append_assoc];rfl⟩⟩
       case measure=>simp [intOf];omega
  ·have hT:hs.drop k=[]:=List.drop_of_length_le (by omega)
   rw[hT,z4y] at heq;have HX:=hd_ hA;have HP:=hd_ hps;have HLL:=hd_ (show O.length+ps.length+1≤1000000 by
    have:=congrArg List.length heq;have h2:=zjj hs ss;rw[List.length_append] at this;have:=HL.out;omega)
   have HRR:=hd_ (fun(v':Value) (X:World) (h:Aft w X w.heap.size (O++ps.flatMap z4t) v')=>(⟨v',rfl,by rw[← heq];exact Row.of_own h.row,h.bel⟩:∃ v,Ending.returned v'=.returned v∧z4b X v (z4y hs ss)∧Below w.heap.size w X))
   clear hps hA heq HI HO;go_wp2_with fail;refine HKK.out _ _ (rsT17 _ (by kernel_rfl) (fun e w'=>∃ v,e=.returned v∧z4b w' v (z4y hs ss)∧Below w.heap.size w w') w _ O ps v A c HX.out HP.out HLL.out HRR.out _ _ _ _ _ _ _ _ _ _ _ _ _ _ _ _ _ _ _ _ _ _ _ _ _ _ _ _ _ _ _ _ _ _ _ _ _ _ _ _ _ _ _ _ _ _ _ _ _ _ _ _ _ _ _ _ _ _ _ _ _ _ _ _ _ _ _ _ _ _ _ _ _ _ _ _ _ _ _ _ _ _ _ _ _ _)
structure PlSt (w wr:World)(B b1 b2:Nat)(v:Value)(op dt:List ByteArray)(ps:List Syn)(k:Nat):Prop where
 own:zjv wr B v ((ps.take k).map (zf7 op dt)++ps.drop k)
 s1:zjy wr b1 op
 s2:zjy wr b2 dt
 low:Below B w wr
theorem set_mid {α:Type}(A D:List α)(x y:α)(k:Nat)(hk:A.length=k):(A++x :: D).set k y=A++y :: D:=by
 subst hk;induction A with
 | nil=>rfl
 | cons a r ih=>rw[List.cons_append,List.length_cons,List.set_cons_succ,ih];rfl
theorem get_mid {α:Type}(A D:List α)(x:α)(k:Nat)(hk:A.length=k)(h:k<(A++x :: D).length):(A++x :: D)[k]=x:=by subst hk;simp
theorem PlSt.next {w wr W:World}{B b1 b2 g c n:Nat}{op dt:List ByteArray}{ps:List Syn}{k:Nat}{x:Syn}{q:Int}(H:PlSt w wr B b1 b2 (.slice (some ⟨g,0,none⟩) n c) op dt ps k)(hX:Below wr.heap.size wr W)
  (hp:ps.drop k=x :: ps.drop (k+1)) (ht:ps.take (k+1)=ps.take k++[x]) (hk:(ps.take k).length=k) (hq:zf6 op dt x=q) (h1:b1≠g) (h2:b2≠g) (hB:B≤g) (hs:B≤wr.heap.size):
  PlSt w (W.setCell ⟨g,k * 5,none⟩ (.int .i64 q)) B b1 b2 (.slice (some ⟨g,0,none⟩) n c) op dt ps (k+1):=by
 have hO:zjv W B (.slice (some ⟨g,0,none⟩) n c) ((ps.take k).map (zf7 op dt)++x :: ps.drop (k+1)):=by
  have:=z0n H.own hX;rw[hp] at this;exact this
 have hlt:k<((ps.take k).map (zf7 op dt)++x :: ps.drop (k+1)).length:=by rw[List.length_append,List.length_map,hk,List.length_cons];omega
 have hO2:=zjv.put hO hlt q;have hx:((ps.take k).map (zf7 op dt)++x :: ps.drop (k+1))[k]=x:=get_mid _ _ _ _ (by rw[List.length_map,hk]) hlt
 rw[hx,set_mid _ _ _ _ _ (by rw[List.length_map,hk])] at hO2
 have hkd:zjw q x=zf7 op dt x:=by rw[← hq];rfl
 refine⟨?_,z2f.setCell (z2f.below H.s1 hX) (fun e=>h1 e.symm) _,z2f.setCell (z2f.below H.s2 hX) (fun e=>h2 e.symm) _,(H.low.trans (hX.mono hs)).setCell hB _⟩;rw[ht,List.map_append,List.append_assoc];rw[hkd] at hO2;exact hO2
theorem plT8 (T:Code)(hT:Tryz.f12.body.bind (zhv 8)=some T)(R:Ending→World→Prop)(w:World)(B b1 b2 g c:Nat)(Ap:Option Addr)(ps:List Syn)(op dt:List ByteArray)(hAp:0<ps.length→Ap=some ⟨g,0,none⟩)
  (hI:PlSt w w B b1 b2 (.slice Ap ps.length c) op dt ps 0) (h1:b1≠g) (h2:b2≠g) (hB:B≤g) (hBw:B≤w.heap.size) (hl:ps.length≤1000000)
  (hs RL:List Hav) (Ah:Option Addr) (ch:Nat) (P1:List Syn)
  (hBK:∀ X,Below B w X→zjv X B (.slice Ap ps.length c) (ps.map (zf7 op dt))→Calls Tryz.prog 38 #[.slice Ah hs.length ch,.slice Ap ps.length c] X fun e w'=>e=.returned (.tuple #[])∧zjv w' B (.slice Ap ps.length c) P1∧Below B X w')
  (hRS:∀ X,Below B w X→zjv X B (.slice Ap ps.length c) P1→Calls Tryz.prog 39 #[.slice Ah hs.length ch,.slice Ap ps.length c] X fun e w'=>∃ u,e=.returned u∧z4b w' u RL∧Below X.heap.size X w')
  (hR1:1024<RL.length→∀ X,Below B w X→R (.returned (.tuple #[.slice none 0 0,.int .i64 351])) X)
  (hR2:¬ 1024<RL.length→∀ X,Below B w X→zjv X B (.slice Ap ps.length c) P1→R (.returned (.tuple #[.slice Ap ps.length c,.int .i64 0])) X)
  (u0 u1 u2 u4 u5 u6 u7 u8 u9 gn gt gx gy gz gE gF gG gH gI gJ gK gL gM gN gO gP gQ gR gT gV gW gX gY gZ i6 i7 i8 ia ib ic ie ig ii ij ik il im io ip iq ir iu iv iw ix iy iz iA iB iC iD iE iF iG iH iI iJ iK iL iM iN iO iP iQ iR iS iT iU iV iW iX iY iZ j0 j1 j2 j5 j6 j7 j8 j9 jb jd:Value):
  T.wp Tryz.prog (bodyPost Tryz.prog Tryz.f12 R) ⟨#[u0,u1,u2,.slice Ah hs.length ch,u4,u5,u6,u7,u8,u9,gn,gt,.slice none 0 0,gx,gy,gz,.slice Ap ps.length c,.map (some b1),.map (some b2),gE,gF,gG,gH,gI,gJ,gK,gL,gM,gN,gO,gP,gQ,gR,gT,gV,gW,gX,gY,gZ,i6,i7,i8,ia,ib,ic,ie,ig,ii,ij,ik,il,im,io,ip,iq,ir,iu,iv,iw,ix,iy,iz,iA,iB,iC,iD,iE,iF,iG,iH,iI,iJ,iK,iL,iM,iN,iO,iP,iQ,iR,iS,iT,iU,iV,iW,iX,iY,iZ,j0,j1,j2,j5,j6,j7,j8,j9,jb,jd],[]⟩ w:=by
 simp only[Tryz.f12,Option.bind_some,zhv,zhu] at hT
 simp at hT
 subst hT;have HI:=hd_ hI;have HBK:=hd_ hBK;have HRS:=hd_ hRS;have HR1:=hd_ hR1;have HR2:=hd_ hR2;clear hI hBK hRS hR1 hR2;go_wp2_with fail;go_loopw [43] (fun i wr=>∃ k:Nat,k≤ps.length∧i=.int .i64 k∧Hid (PlSt w wr B b1 b2 (.slice Ap ps.length c) op dt ps k)) (fun i _=>ps.length - (intOf i).toNat)
 case atStart=>exact⟨0,Nat.zero_le _,rfl,HI⟩
 case round =>
  obtain⟨k,hk,rfl,HK⟩:=hrel;by_cases hlt:k<ps.length
  ·obtain rfl:=hAp (by omega)
   have hlt2:k<((ps.take k).map (zf7 op dt)++ps.drop k).length:=by simp;omega
   have hx:((ps.take k).map (zf7 op dt)++ps.drop k)[k]=ps[k]:=by
    rw[List.getElem_append_right (by rw[List.length_map,List.length_take];exact Nat.min_le_left _ _)]
    simp [Nat.min_eq_left hk]
   obtain⟨⟨y0,y1,y2,y3,y4⟩,fz⟩:=zjv.cell HK.out.own hlt2;rw[hx] at y0 y1 y2 y3 y4;have HPX:=hd_ (show ps.drop k=ps[k] :: ps.drop (k+1) from List.drop_eq_getElem_cons hlt);have HTX:=hd_ (show ps.take (k+1)=ps.take k++[ps[k]] from List.take_succ_eq_append_getElem hlt);generalize ps[k]=x at y0 y1 y2 y3 y4 hx HPX HTX;clear hx fz hlt2;have HH1:=hd_ (fun X (hX:Below wr.heap.size wr X)=>zk0 op b1 x.path X (z2f.below HK.out.s1 hX));have hA:Below wr.heap.size wr (wr.alloc (.cells #[.int .i64 x.kind,.string x.path,.int .i64 x.num,.string x.frm,.string x.dst] 48)):=(Below.refl _ _).alloc (Nat.le_refl _) _;have HC1:=hd_ (HH1.out _ hA);have HA:=hd_ hA;obtain⟨z0,z1,z2,z3,z4⟩:=z3r (x:=x) (z0l wr [.int .i64 x.kind,.string x.path,.int .i64 x.num,.string x.frm,.string x.dst] 48);have HBX:=hd_ (z0l wr [.int .i64 x.kind,.string x.path,.int .i64 x.num,.string x.frm,.string x.dst] 48);clear hA;by_cases hop:x.path∈op
   ·have HKD:Hid (zf6 op dt x=6):=hd_ (if_pos hop);rw[decide_eq_true hop] at HC1;clear hop;go_wp2_with fail;refine HC1.out.mono ?_;rintro e w1 ⟨rfl,hb1⟩;have HB1:=hd_ (HA.out.trans (hb1.mono HA.out.size));clear hb1;have HO1:=hd_ (z0n HK.out.own HB1.out);obtain⟨⟨v0,-,-,-,-⟩,fz⟩:=zjv.cell (show zjv w1 B (.slice (some ⟨g,0,none⟩) ps.length c) ((ps.take k).map (zf7 op dt)++ps.drop k) from HO1.out) (k:=k) (by simp;omega)
    clear y0 y1 y2 y3 y4 z0 z1 z2 z3 z4;have HN:=hd_ (HK.out.next HB1.out HPX.out HTX.out (by rw[List.length_take];omega) HKD.out h1 h2 hB (Nat.le_trans hBw HK.out.low.size))
    go_wp2_with fail;go_roundw
    case rel=>exact⟨k+1,by omega,by go_num,HN⟩
    case measure=>simp [intOf];omega
   ·have HOP:=hd_ hop;rw[decide_eq_false hop] at HC1;clear hop;have HF1:=hd_ (fun X (hX:Below wr.heap.size wr X)=>zk0 dt b2 x.frm X (z2f.below HK.out.s2 hX));have HD1:=hd_ (fun X (hX:Below wr.heap.size wr X)=>zk0 dt b2 x.dst X (z2f.below HK.out.s2 hX));have HCELL:=hd_ (fun X (hX:Below wr.heap.size wr X)=>zjv.cell (show zjv X B (.slice (some ⟨g,0,none⟩) ps.length c) ((ps.take k).map (zf7 op dt)++ps.drop k) from z0n HK.out.own hX) (k:=k) (by simp;omega))
    go_wp2_with fail;refine HC1.out.mono ?_;rintro e w1 ⟨rfl,hb1⟩;have HB1:=hd_ (HA.out.trans (hb1.mono HA.out.size));have HX1:=hd_ (HBX.out.below hb1 HBX.out.lt);clear hb1 y0 y1 y2 y3 y4 z0 z1 z2 z3 z4;obtain⟨z0,z1,z2,z3,z4⟩:=z3r (x:=x) HX1.out;by_cases hf:x.frm=z2l
    ·by_cases hd:x.dst=z2l
     ·have HFE:=hd_ hf;obtain⟨s1,s2⟩:=z3v hf;have HDE:=hd_ hd;obtain⟨t1,t2⟩:=z3v hd;have HKD:Hid (zf6 op dt x=z3p x.frm x.dst):=hd_ (by unfold zf6;rw[if_neg HOP.out,if_neg (fun h=>h.elim (fun h=>h.1 HFE.out) (fun h=>h.1 HDE.out))])
      clear hf hd;have HKC:=hd_ (z3y x w1);go_wp2_with fail;refine HKC.out.mono ?_;rintro e w2 ⟨rfl,hb2⟩;have HB2:=hd_ (HB1.out.trans (hb2.mono HB1.out.size));have HX2:=hd_ (HX1.out.below hb2 HX1.out.lt);clear hb2 z0 z1 z2 z3 z4;obtain⟨z0,z1,z2,z3,z4⟩:=z3r (x:=x) HX2.out;obtain⟨⟨v0,-,-,-,-⟩,fz⟩:=HCELL.out w2 HB2.out;have HN:=hd_ (HK.out.next HB2.out HPX.out HTX.out (by rw[List.length_take];omega) HKD.out h1 h2 hB (Nat.le_trans hBw HK.out.low.size))
      go_wp2_with fail;go_roundw
      case rel=>exact⟨k+1,by omega,by go_num,HN⟩
      case measure=>simp [intOf];omega
     ·by_cases hdd:x.dst∈dt
      ·have HFE:=hd_ hf;obtain⟨s1,s2⟩:=z3v hf;have HDE:=hd_ hd;obtain⟨t1,t2⟩:=z3w hd;have HDD:=hd_ hdd;have HKD:Hid (zf6 op dt x=5):=hd_ (by unfold zf6;rw[if_neg HOP.out,if_pos (.inr ⟨HDE.out,HDD.out⟩)])
       clear hf hd hdd;have HCD:=hd_ (HD1.out w1 HB1.out);rw[decide_eq_true HDD.out] at HCD;go_wp2_with fail;refine HCD.out.mono ?_;rintro e w2 ⟨rfl,hb2⟩;have HB2:=hd_ (HB1.out.trans (hb2.mono HB1.out.size));have HX2:=hd_ (HX1.out.below hb2 HX1.out.lt);clear hb2 z0 z1 z2 z3 z4;obtain⟨z0,z1,z2,z3,z4⟩:=z3r (x:=x) HX2.out;obtain⟨⟨v0,-,-,-,-⟩,fz⟩:=HCELL.out w2 HB2.out;have HN:=hd_ (HK.out.next HB2.out HPX.out HTX.out (by rw[List.length_take];omega) HKD.out h1 h2 hB (Nat.le_trans hBw HK.out.low.size))
       go_wp2_with fail;go_roundw
       case rel=>exact⟨k+1,by omega,by go_num,HN⟩
       case measure=>simp [intOf];omega
      ·have HFE:=hd_ hf;obtain⟨s1,s2⟩:=z3v hf;have HDE:=hd_ hd;obtain⟨t1,t2⟩:=z3w hd;have HDD:=hd_ hdd;have HKD:Hid (zf6 op dt x=z3p x.frm x.dst):=hd_ (by unfold zf6;rw[if_neg HOP.out,if_neg (fun h=>h.elim (fun h=>h.1 HFE.out) (fun h=>HDD.out h.2))])
       clear hf hd hdd;have HCD:=hd_ (HD1.out w1 HB1.out);rw[decide_eq_false HDD.out] at HCD;go_wp2_with fail;refine HCD.out.mono ?_;rintro e w2 ⟨rfl,hb2⟩;have HB2:=hd_ (HB1.out.trans (hb2.mono HB1.out.size));have HX2:=hd_ (HX1.out.below hb2 HX1.out.lt);clear hb2 z0 z1 z2 z3 z4;obtain⟨z0,z1,z2,z3,z4⟩:=z3r (x:=x) HX2.out;have HKC:=hd_ (z3y x w2);go_wp2_with fail;refine HKC.out.mono ?_;rintro e w3 ⟨rfl,hb3⟩;have HB3:=hd_ (HB2.out.trans (hb3.mono HB2.out.size));have HX3:=hd_ (HX2.out.below hb3 HX2.out.lt);clear hb3 z0 z1 z2 z3 z4;obtain⟨z0,z1,z2,z3,z4⟩:=z3r (x:=x) HX3.out;obtain⟨⟨v0,-,-,-,-⟩,fz⟩:=HCELL.out w3 HB3.out;have HN:=hd_ (HK.out.next HB3.out HPX.out HTX.out (by rw[List.length_take];omega) HKD.out h1 h2 hB (Nat.le_trans hBw HK.out.low.size))
       go_wp2_with fail;go_roundw
       case rel=>exact⟨k+1,by omega,by go_num,HN⟩
       case measure=>simp [intOf];omega
    ·by_cases hfd:x.frm∈dt
     ·have HFE:=hd_ hf;obtain⟨s1,s2⟩:=z3w hf;have HCF:=hd_ (HF1.out w1 HB1.out);rw[decide_eq_true hfd] at HCF;have HFD:=hd_ hfd;have HKD:Hid (zf6 op dt x=5):=hd_ (by unfold zf6;rw[if_neg HOP.out,if_pos (.inl ⟨HFE.out,HFD.out⟩)])
      clear hf hfd;go_wp2_with fail;refine HCF.out.mono ?_;rintro e w2 ⟨rfl,hb2⟩;have HB2:=hd_ (HB1.out.trans (hb2.mono HB1.out.size));have HX2:=hd_ (HX1.out.below hb2 HX1.out.lt);clear hb2 z0 z1 z2 z3 z4;obtain⟨z0,z1,z2,z3,z4⟩:=z3r (x:=x) HX2.out;obtain⟨⟨v0,-,-,-,-⟩,fz⟩:=HCELL.out w2 HB2.out;have HN:=hd_ (HK.out.next HB2.out HPX.out HTX.out (by rw[List.length_take];omega) HKD.out h1 h2 hB (Nat.le_trans hBw HK.out.low.size))
      go_wp2_with fail;go_roundw
      case rel=>exact⟨k+1,by omega,by go_num,HN⟩
      case measure=>simp [intOf];omega
     ·by_cases hd:x.dst=z2l
      ·have HFE:=hd_ hf;obtain⟨s1,s2⟩:=z3w hf;have HCF:=hd_ (HF1.out w1 HB1.out);rw[decide_eq_false hfd] at HCF;have HFD:=hd_ hfd;have HDE:=hd_ hd;obtain⟨t1,t2⟩:=z3v hd;have HKD:Hid (zf6 op dt x=z3p x.frm x.dst):=hd_ (by unfold zf6;rw[if_neg HOP.out,if_neg (fun h=>h.elim (fun h=>HFD.out h.2) (fun h=>h.1 HDE.out))])
       clear hf hfd hd;go_wp2_with fail;refine HCF.out.mono ?_;rintro e w2 ⟨rfl,hb2⟩;have HB2:=hd_ (HB1.out.trans (hb2.mono HB1.out.size));have HX2:=hd_ (HX1.out.below hb2 HX1.out.lt);clear hb2 z0 z1 z2 z3 z4;obtain⟨z0,z1,z2,z3,z4⟩:=z3r (x:=x) HX2.out;have HKC:=hd_ (z3y x w2);go_wp2_with fail;refine HKC.out.mono ?_;rintro e w3 ⟨rfl,hb3⟩;have HB3:=hd_ (HB2.out.trans (hb3.mono HB2.out.size));have HX3:=hd_ (HX2.out.below hb3 HX2.out.lt);clear hb3 z0 z1 z2 z3 z4;obtain⟨z0,z1,z2,z3,z4⟩:=z3r (x:=x) HX3.out;obtain⟨⟨v0,-,-,-,-⟩,fz⟩:=HCELL.out w3 HB3.out;have HN:=hd_ (HK.out.next HB3.out HPX.out HTX.out (by rw[List.length_take];omega) HKD.out h1 h2 hB (Nat.le_trans hBw HK.out.low.size))
       go_wp2_with fail;go_roundw
       case rel=>exact⟨k+1,by omega,by go_num,HN⟩
       case measure=>simp [intOf];omega
      ·by_cases hdd:x.dst∈dt
       ·have HFE:=hd_ hf;obtain⟨s1,s2⟩:=z3w hf;have HCF:=hd_ (HF1.out w1 HB1.out);rw[decide_eq_false hfd] at HCF;have HFD:=hd_ hfd;have HDE:=hd_ hd;obtain⟨t1,t2⟩:=z3w hd;have HDD:=hd_ hdd;have HKD:Hid (zf6 op dt x=5):=hd_ (by unfold zf6;rw[if_neg HOP.out,if_pos (.inr ⟨HDE.out,HDD.out⟩)])
        clear hf hfd hd hdd;go_wp2_with fail;refine HCF.out.mono ?_;rintro e w2 ⟨rfl,hb2⟩;have HB2:=hd_ (HB1.out.trans (hb2.mono HB1.out.size));have HX2:=hd_ (HX1.out.below hb2 HX1.out.lt);clear hb2 z0 z1 z2 z3 z4;obtain⟨z0,z1,z2,z3,z4⟩:=z3r (x:=x) HX2.out;have HCD:=hd_ (HD1.out w2 HB2.out);rw[decide_eq_true HDD.out] at HCD;go_wp2_with fail;refine HCD.out.mono ?_;rintro e w3 ⟨rfl,hb3⟩;have HB3:=hd_ (HB2.out.trans (hb3.mono HB2.out.size));have HX3:=hd_ (HX2.out.below hb3 HX2.out.lt);clear hb3 z0 z1 z2 z3 z4;obtain⟨z0,z1,z2,z3,z4⟩:=z3r (x:=x) HX3.out;obtain⟨⟨v0,-,-,-,-⟩,fz⟩:=HCELL.out w3 HB3.out;have HN:=hd_ (HK.out.next HB3.out HPX.out HTX.out (by rw[List.length_take];omega) HKD.out h1 h2 hB (Nat.le_trans hBw HK.out.low.size))
        go_wp2_with fail;go_roundw
        case rel=>exact⟨k+1,by omega,by go_num,HN⟩
        case measure=>simp [intOf];omega
       ·have HFE:=hd_ hf;obtain⟨s1,s2⟩:=z3w hf;have HCF:=hd_ (HF1.out w1 HB1.out);rw[decide_eq_false hfd] at HCF;have HFD:=hd_ hfd;have HDE:=hd_ hd;obtain⟨t1,t2⟩:=z3w hd;have HDD:=hd_ hdd;have HKD:Hid (zf6 op dt x=z3p x.frm x.dst):=hd_ (by unfold zf6;rw[if_neg HOP.out,if_neg (fun h=>h.elim (fun h=>HFD.out h.2) (fun h=>HDD.out h.2))])
        clear hf hfd hd hdd;go_wp2_with fail;refine HCF.out.mono ?_;rintro e w2 ⟨rfl,hb2⟩;have HB2:=hd_ (HB1.out.trans (hb2.mono HB1.out.size));have HX2:=hd_ (HX1.out.below hb2 HX1.out.lt);clear hb2 z0 z1 z2 z3 z4;obtain⟨z0,z1,z2,z3,z4⟩:=z3r (x:=x) HX2.out;have HCD:=hd_ (HD1.out w2 HB2.out);rw[decide_eq_false HDD.out] at HCD;go_wp2_with fail;refine HCD.out.mono ?_;rintro e w3 ⟨rfl,hb3⟩;have HB3:=hd_ (HB2.out.trans (hb3.mono HB2.out.size));have HX3:=hd_ (HX2.out.below hb3 HX2.out.lt);clear hb3 z0 z1 z2 z3 z4;obtain⟨z0,z1,z2,z3,z4⟩:=z3r (x:=x) HX3.out;have HKC:=hd_ (z3y x w3);go_wp2_with fail;refine HKC.out.mono ?_;rintro e w4 ⟨rfl,hb4⟩;have HB4:=hd_ (HB3.out.trans (hb4.mono HB3.out.size));have HX4:=hd_ (HX3.out.below hb4 HX3.out.lt);clear hb4 z0 z1 z2 z3 z4;obtain⟨z0,z1,z2,z3,z4⟩:=z3r (x:=x) HX4.out;obtain⟨⟨v0,-,-,-,-⟩,fz⟩:=HCELL.out w4 HB4.out;have HN:=hd_ (HK.out.next HB4.out HPX.out HTX.out (by rw[List.length_take];omega) HKD.out h1 h2 hB (Nat.le_trans hBw HK.out.low.size))
        go_wp2_with fail;go_roundw
        case rel=>exact⟨k+1,by omega,by go_num,HN⟩
        case measure=>simp [intOf];omega
  ·have hke:k=ps.length:=by omega
   have HO0:Hid (zjv wr B (.slice Ap ps.length c) (ps.map (zf7 op dt))):=hd_ (by
    have:=HK.out.own;rw[hke,List.take_length,List.drop_length,List.append_nil] at this;exact this)
   have HL:=hd_ HK.out.low;have HC:=hd_ (HBK.out wr HL.out HO0.out);have HBW:=hd_ (Nat.le_trans hBw HK.out.low.size);clear hke HK;go_wp2_with fail;refine HC.out.mono ?_;rintro e w1 ⟨rfl,ho,hb⟩;have HO1:=hd_ ho;have HL1:=hd_ (HL.out.trans hb);have HS1:=hd_ (Nat.le_trans HBW.out hb.size);have HC2:=hd_ (HRS.out w1 HL1.out ho);clear ho hb;go_wp2_with fail;refine HC2.out.mono ?_;rintro e w2 ⟨u,rfl,hu,hb⟩;have HL2:=hd_ (HL1.out.trans (hb.mono HS1.out));have HO2:=hd_ (show zjv w2 B _ P1 from z0n HO1.out hb);obtain⟨Au,cu,rfl,-⟩:=id hu;clear hu hb;by_cases hr:1024<RL.length
   ·have HF:=hd_ (HR1.out hr w2 HL2.out);go_wp2_with fail;exact HF.out
   ·have HF:=hd_ (HR2.out hr w2 HL2.out HO2.out);go_wp2_with fail;exact HF.out
end Go.Proofs.YtegeboijhifmcaaGreatDoor
