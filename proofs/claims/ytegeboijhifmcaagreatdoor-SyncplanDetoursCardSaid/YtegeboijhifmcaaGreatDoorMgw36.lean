/- A part of the proof. -/
import Derived.Test.YtegeboijhifmcaaGreatDoorMgw34
import Derived.Test.YtegeboijhifmcaaGreatDoorMgw35
set_option linter.unusedVariables false
set_option linter.unusedSimpArgs false
set_option maxHeartbeats 8000000
set_option maxRecDepth 100000
namespace Go.Proofs.YtegeboijhifmcaaGreatDoor
open Go.Proofs.Tryz
open Go.RowKit
open Go.Sort (grow)
def ReO (w wr:World)(hs:List Hav)(ss:List Syn)(k:Nat)(A:Option Addr)(c n:Nat):Prop:=
 ∃(O:List Hav) (ps:List Syn) (v:Value),n=ps.length∧z4z w (.slice A n c) ps∧(∀ x∈ps,x∈ss)∧ps.length≤ss.length∧Aft w wr w.heap.size O v∧O++z4y (hs.drop k) ps=z4y hs ss
structure ReI (w wr:World)(hs:List Hav)(ss:List Syn)(k g:Nat)(h:Hav)(O:List Hav)(ps:List Syn)(v:Value):Prop where
 aft:Aft w wr w.heap.size O v
 box:Blk wr g 44 [.string h.path,.int .i64 h.num,.string h.loc]
 off:v.ownBlock≠some g
 gne:g≠w.heap.size
 len:ps.length≤ss.length
 eq:O++zjc h (hs.drop (k+1)) ps=z4y hs ss
theorem ReI.under {w wr X:World}{hs:List Hav}{ss:List Syn}{k g:Nat}{h:Hav}{O:List Hav}{ps:List Syn}{v:Value}(H:ReI w wr hs ss k g h O ps v)(hb:Below wr.heap.size wr X):ReI w X hs ss k g h O ps v:=
 ⟨H.aft.under hb,H.box.below hb H.box.lt,H.off,H.gne,H.len,H.eq⟩
theorem ReI.pop0 {w wr:World}{hs:List Hav}{ss:List Syn}{k g:Nat}{h:Hav}{O:List Hav}{x:Syn}{r:List Syn}{v:Value}(H:ReI w wr hs ss k g h O (x :: r) v)(hc:z2u x.path h.path<0)(hp:z4t x=[]):ReI w wr hs ss k g h O r v:=
 ⟨H.aft,H.box,H.off,H.gne,by have:=H.len;rw[List.length_cons] at this;omega,by rw[← H.eq,zjd hc,hp];rfl⟩
theorem ReI.pop1 {w wr w3:World}{hs:List Hav}{ss:List Syn}{k g:Nat}{h:Hav}{O:List Hav}{x:Syn}{r:List Syn}{v v3:Value}(H:ReI w wr hs ss k g h O (x :: r) v)(hc:z2u x.path h.path<0)(hp:z4t x=z4s x)
  (hA:Aft w w3 w.heap.size (O++z4s x) v3) (hK:Kp w.heap.size wr w3 v v3):ReI w w3 hs ss k g h (O++z4s x) r v3:=by
 obtain⟨b1,b2⟩:=hK.blk H.box H.gne H.off;exact⟨hA,b1,b2,H.gne,by have:=H.len;rw[List.length_cons] at this;omega,by rw[← H.eq,zjd hc,hp,List.append_assoc]⟩
theorem ReI.room {w wr:World}{hs:List Hav}{ss:List Syn}{k g:Nat}{h:Hav}{O:List Hav}{ps:List Syn}{v:Value}(H:ReI w wr hs ss k g h O ps v)(hl:hs.length+ss.length+1≤1000000):(O.length+1) * 40≤140737488355328:=
 zjk H.eq (zjj hs ss) hl
theorem zjl (hs:List Hav)(ss:List Syn)(hv pv:Value)(w:World)(hH:z4b w hv hs)(hS:z4z w pv ss)(hz:∀ x∈hs,x.path.size≤1000000)(hz2:∀ x∈ss,x.path.size≤1000000)(hl:hs.length+2 * ss.length+1≤1000000):
  Calls prog 39 #[hv,pv] w fun e w'=>∃ v,e=.returned v∧z4b w' v (z4y hs ss)∧Below w.heap.size w w':=by
 obtain⟨Ah,ch,rfl,-⟩:=id hH;obtain⟨A1,c1,rfl,-⟩:=id hS;have hO:ReO w (w.alloc (.cells #[.slice none 0 0] 28)) hs ss 0 A1 c1 ss.length:=⟨[],ss,.slice none 0 0,rfl,hS,fun _ h=>h,Nat.le_refl _,⟨(Below.refl _ _).alloc (Nat.le_refl _) _,z0l w [.slice none 0 0] _,World.ownsRow_nil _ _ _ _⟩,rfl⟩;have HO:=hd_ hO;have HH:=hd_ hH;have HZ:=hd_ hz;have HZ2:=hd_ hz2;have HL:=hd_ hl;have hkb:hs.length≤1000000:=by omega
 have HL2:=hd_ (show hs.length+ss.length+1≤1000000 by omega)
 clear hH hS hz hz2 hl hO;go_enter func39,ntmps39;go_wp2_with fail;go_loopw [1,14] (fun p i wr=>∃(k:Nat) (A:Option Addr) (c n:Nat),k≤hs.length∧p=.slice A n c∧i=.int .i64 k∧Hid (ReO w wr hs ss k A c n)) (fun _ i _=>hs.length - (intOf i).toNat)
 case atStart=>exact⟨0,A1,c1,ss.length,Nat.zero_le _,rfl,rfl,HO⟩
 case round =>
  obtain⟨k,A,c,n,hk,rfl,rfl,HI⟩:=hrel;rename ∀ a w,Code.wp _ (Code.seq (Code.seq (Code.region 17 _ _) _) _) _ a w→_=>hkk
  have HKK:=hd_ hkk;clear hkk;obtain⟨O,ps,v,rfl,hps,hmem,hpl,hA,heq⟩:=HI.out;by_cases hlt:k<hs.length
  ·obtain⟨ad,rfl,hab,y0,y1,y2⟩:=z4b.at_ (HH.out.below hA.bel) hlt;have hzk:=HZ.out hs[k] (List.getElem_mem _);rw[List.drop_eq_getElem_cons hlt] at heq;generalize hs[k]=h at y0 y1 y2 heq hzk;have HP:=hd_ hps;have HX0:Hid (ReI w (wr.alloc (.cells #[.string h.path,.int .i64 h.num,.string h.loc] 44)) hs ss k wr.heap.size h O ps v):=hd_ ⟨hA.alloc _,z0l wr [.string h.path,.int .i64 h.num,.string h.loc] _,fun e=>by have:=(hA.row.lt _ e).2;omega,by have:=hA.box.lt;omega,hpl,heq⟩
   clear hps hA heq HI HO;go_wp2_with fail;clear y0 y1 y2 hab;generalize wr.heap.size=g at HX0 ⊢;go_loopw [1] (fun p wq=>∃(A:Option Addr) (c n:Nat) (O:List Hav) (ps:List Syn) (v:Value),p=.slice A n c∧n=ps.length∧Hid (z4z w (.slice A n c) ps)∧(∀ x∈ps,x∈ss)∧Hid (ReI w wq hs ss k g h O ps v)) (fun p _=>ziv p)
   case atStart=>exact⟨A,c,ps.length,O,ps,v,rfl,rfl,HP,hmem,HX0⟩
   case round =>
    obtain⟨A,c,n,O,ps,v,rfl,hn,HP2,hmem2,HR⟩:=hrel;cases ps with
    | nil =>
     have hn':n=0:=hn;have n0:decide (0<n)=false:=by simp;omega
     have HN:=hd_ hn';clear hn hn';go_wp2_with fail;refine wp_region_quiet_below (by kernel_rfl) (by kernel_rfl) ?_
     repeat (first | go_big_quiet_step (fail) | quiet_step (fail))
     refine wpQuiet_nil ?_;intro _ hw9;obtain⟨⟨dq,osq⟩,hw9⟩:=hw9;subst hw9;have HR1:=hd_ (HR.out.under (below_regrown wr dq osq));generalize grow (redrawn wr dq) osq=W1 at HR1 ⊢;go_wp2_with fail;refine wp_region_quiet_below (by kernel_rfl) (by kernel_rfl) ?_
     repeat (first | go_big_quiet_step (fail) | quiet_step (fail))
     refine wpQuiet_nil ?_;intro _ hw9;obtain⟨⟨dq,osq⟩,hw9⟩:=hw9;subst hw9;have HR2:=hd_ (HR1.out.under (below_regrown W1 dq osq));generalize grow (redrawn W1 dq) osq=W2 at HR2 ⊢;have HA2:=hd_ (HR2.out.aft.alloc (.cells #[.string h.path,.int .i64 h.num,.string h.loc] 44));have hbx:W2.cell? ⟨w.heap.size,0,none⟩=some v:=HR2.out.aft.box.cell 0;obtain⟨d0,d1,d2⟩:=z3s (x:=h) HR2.out.box;have hrm:=HR2.out.room HL2.out;have hrow:=z0i W2 [.string h.path,.int .i64 h.num,.string h.loc] 44 3 1 rfl (by unfold maxLen;omega) W2.heap.size rfl
     have hsz:w.heap.size+1≤(W2.alloc (.cells #[.string h.path,.int .i64 h.num,.string h.loc] 44)).heap.size:=by have:=HR2.out.aft.box.lt;simp;omega
     obtain⟨A0,c0,rfl⟩:=z0o HR2.out.aft.row;go_wp2_with (at_builtin;refine z0j rfl rfl z54 HA2.out.row rfl hrow rfl (z55 h) hrm (by unfold maxLen;omega) hsz ?_;intro A' c' w2 hown hgr hob;obtain⟨hA3,hK3⟩:=HA2.out.push (x:=h) hown hgr hob;have hbw:=Blk.grown HA2.out.box hgr (fun e=>by have:=(HA2.out.row.lt w.heap.size e.symm).1;omega);have hfz:=hbw.frozen 0;have hcl:w2.cell? ⟨w.heap.size,0,none⟩=some (.slice A0 O.length c0):=hbw.cell 0)
     go_roundw
     case rel=>exact⟨k+1,A,c,n,by omega,rfl,by go_num,hd_ ⟨O++[h],[],_,HN.out,HP2.out,fun _ h=>(by cases h),Nat.zero_le _,hA3,by rw[← HR2.out.eq,zje,List.append_assoc];rfl⟩⟩
     case measure=>simp [intOf];omega
    | cons x r =>
     obtain rfl:n=r.length+1:=hn
     obtain⟨-,ad2,rfl,-,-⟩:=HP2.out.head;have HT2:=hd_ HP2.out.tail2;have hxs:=(HZ2.out x (hmem2 x List.mem_cons_self));have HMR:Hid (∀ z∈r,z∈ss):=hd_ (fun z hz=>hmem2 z (List.mem_cons_of_mem _ hz));have HX0X:Hid (x∈ss):=hd_ (hmem2 x List.mem_cons_self);have HLE:Hid (r.length≤ss.length):=hd_ (by have:=HR.out.len;rw[List.length_cons] at this;omega)
     have HSY:Hid (∀ X,Below w.heap.size w X→z50 X ad2 x):=hd_ (fun X hX=>by
      obtain⟨-,ad3,e3,-,h3⟩:=(HP2.out.below hX).head;injection e3 with e3
      subst e3;exact h3)
     have hz0:(0:Int)<((r.length+1:Nat):Int):=by omega
     obtain⟨s0,s1,s2,s3,s4⟩:=HSY.out wr (HR.out.aft.bel);have e1:=cell_regrown s1;have b0:=cell_regrown (z3s (x:=h) HR.out.box).1;have HCMP:=hd_ (fun X=>z41 x.path h.path X (by omega) (by omega))
     have cC:∀ d os,Calls prog 45 #[.string x.path,.string h.path] (grow (redrawn wr d) os) fun e w''=>e=.returned (.int .i64 (z2u x.path h.path))∧∃ p:Regrown,w''=grow (redrawn wr p.d) p.os:=fun d os=>Calls.regrown_of ((HCMP.out (grow (redrawn wr d) os)).mono (by rintro e w5 ⟨rfl,n5,rfl⟩;exact⟨rfl,zqq _ _⟩))
     generalize hcv:z2u x.path h.path=cv at cC;by_cases hlc:cv<0
     ·have n2:decide (cv<0)=true:=decide_eq_true hlc;have HLC:Hid (z2u x.path h.path<0):=hd_ (by rw[hcv];exact hlc)
      clear hcv hlc s0 s1 s2 s3 s4;go_wp2_with fail;refine wp_region_quiet_below (by kernel_rfl) (by kernel_rfl) ?_
      repeat (first | go_big_quiet_step (exact cC _ _) | quiet_step (exact cC _ _))
      refine wpQuiet_nil ?_;intro _ hw9;obtain⟨⟨dq,osq⟩,hw9⟩:=hw9;subst hw9;have HR1:=hd_ (HR.out.under (below_regrown wr dq osq));generalize grow (redrawn wr dq) osq=W1 at HR1 ⊢;clear e1 b0 cC n2;obtain⟨s0,s1,s2,s3,s4⟩:=HSY.out W1 (HR1.out.aft.bel);have HST:=hd_ (z3u x W1);cases hst:z3o x.kind with
      | true =>
       have HPU:Hid (z4t x=[]):=hd_ (by unfold z4t;rw[hst];rfl)
       rw[hst] at HST;clear hst;go_wp2_with fail;refine HST.out.mono ?_;rintro e w5 ⟨rfl,hb⟩;have HR2:=hd_ (HR1.out.under hb);clear hb;clear s0 s1 s2 s3 s4;go_wp2_with fail;go_roundw
       case rel=>exact⟨_,_,_,O,r,v,rfl,rfl,HT2,HMR.out,hd_ (HR2.out.pop0 HLC.out HPU.out)⟩
       case measure=>first | (simp [ziv];done) | (simp [ziv];omega)
      | false =>
       have HPU:Hid (z4t x=z4s x):=hd_ (by unfold z4t;rw[hst];rfl)
       rw[hst] at HST;clear hst;go_wp2_with fail;refine HST.out.mono ?_;rintro e w5 ⟨rfl,hb⟩;have HR2:=hd_ (HR1.out.under hb);clear hb;clear s0 s1 s2 s3 s4;obtain⟨s0,s1,s2,s3,s4⟩:=HSY.out w5 (HR2.out.aft.bel);have HAD:=hd_ (z58 x w w5 w.heap.size _ v HR2.out.aft (HR2.out.room HL2.out));go_wp2_with fail;refine HAD.out.mono ?_;rintro e w6 ⟨rfl,v6,h6,k6⟩;have HR3:=hd_ (HR2.out.pop1 HLC.out HPU.out h6 k6);clear h6 k6;clear s0 s1 s2 s3 s4;go_wp2_with fail;go_roundw
       case rel=>exact⟨_,_,_,O++z4s x,r,v6,rfl,rfl,HT2,HMR.out,HR3⟩
       case measure=>first | (simp [ziv];done) | (simp [ziv];omega)
     ·have n2:decide (cv<0)=false:=decide_eq_false hlc;have HLC:Hid (0≤z2u x.path h.path):=hd_ (by rw[hcv];exact Int.not_lt.1 hlc)
      clear hcv hlc s0 s1 s2 s3 s4;go_wp2_with fail;refine wp_region_quiet_below (by kernel_rfl) (by kernel_rfl) ?_
      repeat (first | go_big_quiet_step (exact cC _ _) | quiet_step (exact cC _ _))
      refine wpQuiet_nil ?_;intro _ hw9;obtain⟨⟨dq,osq⟩,hw9⟩:=hw9;subst hw9;have HR1:=hd_ (HR.out.under (below_regrown wr dq osq));generalize grow (redrawn wr dq) osq=W1 at HR1 ⊢;clear e1 b0 cC n2;obtain⟨s0,s1,s2,s3,s4⟩:=HSY.out W1 (HR1.out.aft.bel);have e1:=cell_regrown s1;have b0:=cell_regrown (z3s (x:=h) HR1.out.box).1;have q:=z3x x.path h.path;clear s0 s1 s2 s3 s4;by_cases hp:x.path=h.path
      ·rw[decide_eq_true hp] at q;have HPE:=hd_ hp;clear hp;go_wp2_with fail;refine wp_region_quiet_below (by kernel_rfl) (by kernel_rfl) ?_
       repeat (first | go_big_quiet_step (fail) | quiet_step (fail))
       refine wpQuiet_nil ?_;intro _ hw9;obtain⟨⟨dq,osq⟩,hw9⟩:=hw9;subst hw9;have HR2:=hd_ (HR1.out.under (below_regrown W1 dq osq));generalize grow (redrawn W1 dq) osq=W2 at HR2 ⊢;clear e1 b0;obtain⟨s0,s1,s2,s3,s4⟩:=HSY.out W2 (HR2.out.aft.bel);have HST:=hd_ (z3u x W2);cases hst:z3o x.kind with
       | true =>
        have HM:=hd_ (zjf (hs:=hs.drop (k+1)) (r:=r) (Int.not_lt.2 HLC.out) HPE.out hst);rw[hst] at HST;clear hst;go_wp2_with fail;refine HST.out.mono ?_;rintro e w5 ⟨rfl,hb⟩;have HR3:=hd_ (HR2.out.under hb);clear hb;clear s0 s1 s2 s3 s4;have HA2:=hd_ (HR3.out.aft.alloc (.cells #[.string h.path,.int .i64 h.num,.string h.loc] 44));have hbx:w5.cell? ⟨w.heap.size,0,none⟩=some v:=HR3.out.aft.box.cell 0;obtain⟨d0,d1,d2⟩:=z3s (x:=h) HR3.out.box;have hrm:=HR3.out.room HL2.out;have hrow:=z0i w5 [.string h.path,.int .i64 h.num,.string h.loc] 44 3 1 rfl (by unfold maxLen;omega) w5.heap.size rfl
        have hsz:w.heap.size+1≤(w5.alloc (.cells #[.string h.path,.int .i64 h.num,.string h.loc] 44)).heap.size:=by have:=HR3.out.aft.box.lt;simp;omega
        obtain⟨A0,c0,rfl⟩:=z0o HR3.out.aft.row;go_wp2_with (at_builtin;refine z0j rfl rfl z54 HA2.out.row rfl hrow rfl (z55 h) hrm (by unfold maxLen;omega) hsz ?_;intro A' c' w2 hown hgr hob;obtain⟨hA3,hK3⟩:=HA2.out.push (x:=h) hown hgr hob;have hbw:=Blk.grown HA2.out.box hgr (fun e=>by have:=(HA2.out.row.lt w.heap.size e.symm).1;omega);have hfz:=hbw.frozen 0;have hcl:w2.cell? ⟨w.heap.size,0,none⟩=some (.slice A0 O.length c0):=hbw.cell 0)
        have HN:=hd_ hA3;clear hK3 hbw hfz hcl;go_wp2_with fail;go_roundw
        case rel=>exact⟨k+1,_,_,_,by omega,rfl,by go_num,hd_ ⟨O++[h],r,_,rfl,HT2.out,HMR.out,HLE.out,HN.out,by rw[← HR2.out.eq,HM.out,List.append_assoc];rfl⟩⟩
        case measure=>simp [intOf];omega
       | false =>
        have HM:=hd_ (resM_go (hs:=hs.drop (k+1)) (r:=r) (Int.not_lt.2 HLC.out) HPE.out hst);rw[hst] at HST;clear hst;go_wp2_with fail;refine HST.out.mono ?_;rintro e w5 ⟨rfl,hb⟩;have HR3:=hd_ (HR2.out.under hb);clear hb;clear s0 s1 s2 s3 s4;obtain⟨s0,s1,s2,s3,s4⟩:=HSY.out w5 (HR3.out.aft.bel);have HAD:=hd_ (z58 x w w5 w.heap.size _ v HR3.out.aft (HR3.out.room HL2.out));go_wp2_with fail;refine HAD.out.mono ?_;rintro e w6 ⟨rfl,v6,h6,k6⟩;have HN:=hd_ h6;clear h6 k6;clear s0 s1 s2 s3 s4;go_wp2_with fail;go_roundw
        case rel=>exact⟨k+1,_,_,_,by omega,rfl,by go_num,hd_ ⟨O++z4s x,r,_,rfl,HT2.out,HMR.out,HLE.out,HN.out,by rw[← HR2.out.eq,HM.out,List.append_assoc]⟩⟩
        case measure=>simp [intOf];omega
      ·have HM:=hd_ (zjg (hs:=hs.drop (k+1)) (r:=r) (Int.not_lt.2 HLC.out) hp);rw[decide_eq_false hp] at q;clear hp;go_wp2_with fail;refine wp_region_quiet_below (by kernel_rfl) (by kernel_rfl) ?_
       repeat (first | go_big_quiet_step (fail) | quiet_step (fail))
       refine wpQuiet_nil ?_;intro _ hw9;obtain⟨⟨dq,osq⟩,hw9⟩:=hw9;subst hw9;have HR2:=hd_ (HR1.out.under (below_regrown W1 dq osq));generalize grow (redrawn W1 dq) osq=W2 at HR2 ⊢;clear e1 b0;have HA2:=hd_ (HR2.out.aft.alloc (.cells #[.string h.path,.int .i64 h.num,.string h.loc] 44));have hbx:W2.cell? ⟨w.heap.size,0,none⟩=some v:=HR2.out.aft.box.cell 0;obtain⟨d0,d1,d2⟩:=z3s (x:=h) HR2.out.box;have hrm:=HR2.out.room HL2.out;have hrow:=z0i W2 [.string h.path,.int .i64 h.num,.string h.loc] 44 3 1 rfl (by unfold maxLen;omega) W2.heap.size rfl
       have hsz:w.heap.size+1≤(W2.alloc (.cells #[.string h.path,.int .i64 h.num,.string h.loc] 44)).heap.size:=by have:=HR2.out.aft.box.lt;simp;omega
       obtain⟨A0,c0,rfl⟩:=z0o HR2.out.aft.row;go_wp2_with (at_builtin;refine z0j rfl rfl z54 HA2.out.row rfl hrow rfl (z55 h) hrm (by unfold maxLen;omega) hsz ?_;intro A' c' w2 hown hgr hob;obtain⟨hA3,hK3⟩:=HA2.out.push (x:=h) hown hgr hob;have hbw:=Blk.grown HA2.out.box hgr (fun e=>by have:=(HA2.out.row.lt w.heap.size e.symm).1;omega);have hfz:=hbw.frozen 0;have hcl:w2.cell? ⟨w.heap.size,0,none⟩=some (.slice A0 O.length c0):=hbw.cell 0)
       have HN:=hd_ hA3;go_roundw
       case rel=>exact⟨k+1,some ad2,c,r.length+1,by omega,rfl,by go_num,hd_ ⟨O++[h],x :: r,_,rfl,HP2.out,fun z hz=>by rcases List.mem_cons.1 hz with rfl | hz;exact HX0X.out;exact HMR.out z hz,HR2.out.len,HN.out,by rw[← HR2.out.eq,HM.out,List.append_assoc];rfl⟩⟩
       case measure=>simp [intOf];omega
  ·have hT:hs.drop k=[]:=List.drop_of_length_le (by omega)
   rw[hT,z4y] at heq;have HX:=hd_ hA;have HP:=hd_ hps;have HLL:=hd_ (show O.length+ps.length+1≤1000000 by
    have:=congrArg List.length heq;have h2:=zjj hs ss;rw[List.length_append] at this;have:=HL.out;omega)
   have HRR:=hd_ (fun(v':Value) (X:World) (h:Aft w X w.heap.size (O++ps.flatMap z4t) v')=>(⟨v',rfl,by rw[← heq];exact Row.of_own h.row,h.bel⟩:∃ v,Ending.returned v'=.returned v∧z4b X v (z4y hs ss)∧Below w.heap.size w X))
   clear hps hA heq HI HO;go_wp2_with fail;refine HKK.out _ _ (rsT17 _ (by kernel_rfl) (fun e w'=>∃ v,e=.returned v∧z4b w' v (z4y hs ss)∧Below w.heap.size w w') w _ O ps v A c HX.out HP.out HLL.out HRR.out _ _ _ _ _ _ _ _ _ _ _ _ _ _ _ _ _ _ _ _ _ _ _ _ _ _ _ _ _ _ _ _ _ _ _ _ _ _ _ _ _ _ _ _ _ _ _ _ _ _ _ _ _ _ _ _ _ _ _ _ _ _ _ _ _ _ _ _ _ _ _ _ _ _ _ _ _ _ _ _ _ _ _ _ _ _)
theorem zjm {x:Syn}{y:Hav}(h:y∈z4s x):y.path=x.path∧y.loc=x.dst:=by
 unfold z4s at h;split at h
 ·cases h
 ·rw[List.mem_singleton] at h;subst h;exact⟨rfl,rfl⟩
theorem zjn {x:Syn}{y:Hav}(h:y∈z4t x):y.path=x.path∧y.loc=x.dst:=by
 unfold z4t at h;split at h
 ·cases h
 ·exact zjm h
theorem zjo {p:ByteArray}{l:List Syn}{x:Syn}(h:x∈z4v p l):x∈l:=by
 induction l with
 | nil=>exact h
 | cons z r ih =>
  rw[z4v] at h;split at h
  ·exact List.mem_cons_of_mem _ (ih h)
  ·exact h
theorem zjp {e:Hav}{l:List Syn}{x:Syn}(h:x∈z4x e l):x∈l:=by
 cases l with
 | nil=>exact h
 | cons z r =>
  rw[z4x] at h;split at h
  ·exact List.mem_cons_of_mem _ h
  ·exact h
theorem zjq {p:ByteArray}{l:List Syn}{y:Hav}(h:y∈z4u p l):∃ x∈l,y.path=x.path∧y.loc=x.dst:=by
 induction l with
 | nil=>cases h
 | cons z r ih =>
  rw[z4u] at h;split at h
  ·rcases List.mem_append.1 h with h | h
   ·exact⟨z,List.mem_cons_self,zjn h⟩
   ·obtain⟨x,hx,e⟩:=ih h;exact⟨x,List.mem_cons_of_mem _ hx,e⟩
  ·cases h
theorem zjr {e:Hav}{l:List Syn}{y:Hav}(h:y∈z4w e l):y=e∨∃ x∈l,y.path=x.path∧y.loc=x.dst:=by
 cases l with
 | nil=>rw[z4w,List.mem_singleton] at h;exact .inl h
 | cons z r =>
  rw[z4w] at h;split at h
  ·split at h
   ·rw[List.mem_singleton] at h;exact .inl h
   ·exact .inr ⟨z,List.mem_cons_self,zjm h⟩
  ·rw[List.mem_singleton] at h;exact .inl h
theorem zjs:∀ {hs:List Hav} {ps:List Syn} {y:Hav},y∈z4y hs ps→y∈hs∨∃ x∈ps,y.path=x.path∧y.loc=x.dst
 | [],ps,y,h=>by
  rw[z4y] at h;obtain⟨x,hx,e⟩:=List.mem_flatMap.1 h;exact .inr ⟨x,hx,zjn e⟩
 | e :: hs,ps,y,h=>by
  rw[z4y] at h;rcases List.mem_append.1 h with h | h
  ·rcases List.mem_append.1 h with h | h
   ·exact .inr (zjq h)
   ·rcases zjr h with rfl | ⟨x,hx,e⟩
    ·exact .inl List.mem_cons_self
    ·exact .inr ⟨x,zjo hx,e⟩
  ·rcases zjs h with h | ⟨x,hx,e⟩
   ·exact .inl (List.mem_cons_of_mem _ h)
   ·exact .inr ⟨x,zjo (zjp hx),e⟩
theorem zjt (hs:List Hav)(ss:List Syn)(hv pv:Value)(w:World)(hH:z4b w hv hs)(hS:z4z w pv ss)
  (hz:∀ x∈hs,x.path.size≤1000000∧x.loc.size≤1000000) (hz2:∀ x∈ss,x.path.size≤1000000∧x.dst.size≤1000000) (hl:hs.length+2 * ss.length+1≤1000000):
  Calls prog 19 #[hv,pv] w fun e w'=>e=.returned (.int .i64 (zj1 hs ss))∧Below w.heap.size w w':=
 zj6 hs ss hv pv w hH hS hz hz2 (fun y hy=>by
   rcases zjs hy with h | ⟨x,hx,e1,e2⟩
   ·exact hz y h
   ·rw[e1,e2];exact hz2 x hx) (by omega)
  (fun X hX=>zjl hs ss hv pv X (hH.below hX) (hS.below hX) (fun x hx=>(hz x hx).1) (fun x hx=>(hz2 x hx).1) hl)
theorem zju (hs:List Hav)(ss:List Syn)(hv pv:Value)(w:World)(hH:z4b w hv hs)(hS:z4z w pv ss)
  (hz:∀ x∈hs,x.path.size≤1000000∧x.loc.size≤1000000) (hz2:∀ x∈ss,x.path.size≤1000000∧x.dst.size≤1000000) (hl:hs.length+2 * ss.length+1≤1000000):
  Calls prog 17 #[hv,pv] w fun e w'=>∃ v,e=.returned (.tuple #[v,.int .i64 (zj1 hs ss)])∧z4b w' v (if zj1 hs ss=0 then z4y hs ss else [])∧Below w.heap.size w w':=by
 have HC:=hd_ (zjt hs ss hv pv w hH hS hz hz2 hl);have HR:=hd_ (fun X (hX:Below w.heap.size w X)=>zjl hs ss hv pv X (hH.below hX) (hS.below hX) (fun x hx=>(hz x hx).1) (fun x hx=>(hz2 x hx).1) hl);obtain⟨Ah,ch,rfl,-⟩:=id hH;obtain⟨A1,c1,rfl,-⟩:=id hS;clear hH hS hz hz2 hl;generalize zj1 hs ss=ce at HC ⊢;by_cases he:ce=0
 ·subst he;rw[if_pos rfl];go_enter func17,ntmps17;go_wp2_with fail;refine HC.out.mono ?_;rintro e w1 ⟨rfl,hb1⟩;have HR1:=hd_ (HR.out w1 hb1);have HB1:=hd_ hb1;clear hb1;go_wp2_with fail;refine HR1.out.mono ?_;rintro e w2 ⟨v,rfl,hv,hb2⟩;have HV:=hd_ hv;have HB2:=hd_ (z0r HB1.out hb2);clear hv hb2;go_wp2_with fail;go_ret2;exact⟨_,rfl,HV.out,HB2.out⟩
 ·rw[if_neg he];have n0:(ce == 0)=false:=beq_eq_false_iff_ne.2 he;have n1:(ce != 0)=true:=by rw[bne,n0];rfl
  clear he;go_enter func17,ntmps17;go_wp2_with fail;refine HC.out.mono ?_;rintro e w1 ⟨rfl,hb1⟩;have HB1:=hd_ hb1;clear hb1;go_wp2_with fail;go_ret2;exact⟨_,rfl,Row.nil_ _ _,HB1.out⟩
def zo0 (w:World)(v:Value)(b:Bool)(e:Ending)(w':World):Prop:=Below w.heap.size w w'∧∃ H n c,e=.returned (.tuple #[.agg #[v,.bool b,.slice H n c],.bool true])
theorem zo1 (A C H:Option Addr)(nl nr a c hc:Nat)(bl br:Bool)(w:World):
  Calls prog 138 #[.agg #[.slice A nl a,.bool bl,.slice C nr c,.bool br,.slice H 0 hc]] w (zo0 w (.slice C nr c) br):=by
 obtain⟨W1,hW1⟩:∃ W,W=(w.alloc (.cells #[.slice A nl a,.bool bl,.slice C nr c,.bool br,.slice H 0 hc] 100)).alloc (.cells #[.slice none 0 0,.bool false,.slice none 0 0] 115):=⟨_,rfl⟩;have hA:Below w.heap.size w W1:=by rw[hW1];exact ((Below.refl _ _).alloc (Nat.le_refl _) _).alloc (by simp) _
 have h1:Blk W1 w.heap.size 100 [.slice A nl a,.bool bl,.slice C nr c,.bool br,.slice H 0 hc]:=by rw[hW1];exact (z0l w _ _).alloc _
 have h2:Blk W1 (w.heap.size+1) 115 [.slice none 0 0,.bool false,.slice none 0 0]:=by
  rw[hW1];have:=z0l (w.alloc (.cells #[.slice A nl a,.bool bl,.slice C nr c,.bool br,.slice H 0 hc] 100)) [.slice none 0 0,.bool false,.slice none 0 0] 115;simp only[World.size_alloc] at this
  exact this
 have HW1:=hd_ hW1;have HA:=hd_ hA;have H1:=hd_ h1;have H2:=hd_ h2;clear hW1 hA h1 h2;go_enter func138,ntmps138;go_upto_region 1 with fail;rw[← HW1.out];have y4:W1.cell? ⟨w.heap.size,4,none⟩=some (.slice H 0 hc):=H1.out.cell 4;clear HW1;go_wp2_with fail;clear y4;go_loopw [4,13] (fun v i wr=>v=.slice none 0 0∧i=.int .i64 0∧wr=W1) (fun _ i _=>0)
 case atStart=>exact⟨rfl,rfl,rfl⟩
 case round =>
  obtain⟨rfl,rfl,rfl⟩:=hrel;obtain⟨y2,y3⟩:=(⟨H1.out.cell 2,H1.out.cell 3⟩:wr.cell? ⟨w.heap.size,2,none⟩=some (.slice C nr c)∧wr.cell? ⟨w.heap.size,3,none⟩=some (.bool br));have HS:=hd_ (znx C nr c br wr);go_wp2_with fail;refine HS.out.mono ?_;rintro e w2 ⟨hb,H9,n9,c9,rfl⟩;dsimp only;have HB2:=hd_ (z0r HA.out hb);have HX2:=hd_ (H2.out.below hb H2.out.lt);obtain⟨u0,u1,u2⟩:=(⟨HX2.out.cell 0,HX2.out.cell 1,HX2.out.cell 2⟩:w2.cell? ⟨w.heap.size+1,0,none⟩=some (.slice none 0 0)∧w2.cell? ⟨w.heap.size+1,1,none⟩=some (.bool false)∧w2.cell? ⟨w.heap.size+1,2,none⟩=some (.slice none 0 0));obtain⟨f0,f1,f2⟩:=(⟨HX2.out.frozen 0,HX2.out.frozen 1,HX2.out.frozen 2⟩:w2.frozen? ⟨w.heap.size+1,0,none⟩=false∧w2.frozen? ⟨w.heap.size+1,1,none⟩=false∧w2.frozen? ⟨w.heap.size+1,2,none⟩=false);clear hb y2 y3 HS;go_wp2_with fail;have hE:=((HX2.out.set_ 0 (.slice C nr c)).set_ 1 (.bool br)).set_ 2 (.slice H9 n9 c9);have hb:=((HB2.out.setCell (p:=⟨w.heap.size+1,0,none⟩) (by simp) (.slice C nr c)).setCell (p:=⟨w.heap.size+1,1,none⟩) (by simp) (.bool br)).setCell (p:=⟨w.heap.size+1,2,none⟩) (by simp) (.slice H9 n9 c9)
  generalize ((w2.setCell ⟨w.heap.size+1,0,none⟩ (.slice C nr c)).setCell ⟨w.heap.size+1,1,none⟩ (.bool br)).setCell ⟨w.heap.size+1,2,none⟩ (.slice H9 n9 c9)=W8 at hE hb ⊢;have e0:=hE.cell 0;have e1:=hE.cell 1;have e2:=hE.cell 2;exact bodyPost_ret (v:=.tuple #[.agg #[.slice C nr c,.bool br,.slice H9 n9 c9],.bool true]) (by simp [results,results138,go_sem,e0,e1,e2]) rfl ⟨hb,H9,n9,c9,rfl⟩
end Go.Proofs.YtegeboijhifmcaaGreatDoor
