/- A part. -/
import Derived.Test.YtijghobkkdbhnaaGreatDoorMgw30
import Derived.Test.YtijghobkkdbhnaaGreatDoorMgw27
set_option linter.unusedVariables false
set_option linter.unusedSimpArgs false
set_option maxHeartbeats 8000000
set_option maxRecDepth 100000
namespace Go.Proofs.YtijghobkkdbhnaaGreatDoor
open Go.RowKit
open Go.Sort (grow)
def ReO (w wr:World)(hs:List Hav)(ss:List Syn)(k:Nat)(A:Option Addr)(c n:Nat):Prop:=
 ∃(O:List Hav) (ps:List Syn) (v:Value),n=ps.length∧z4z w (.slice A n c) ps∧(∀ x∈ps,x∈ss)∧ps.length≤ss.length∧Aft w wr w.heap.size O v∧O++z4y (hs.drop k) ps=z4y hs ss
structure ReI (w wr:World)(hs:List Hav)(ss:List Syn)(k g:Nat)(h:Hav)(O:List Hav)(ps:List Syn)(v:Value):Prop where
 aft:Aft w wr w.heap.size O v
 box:Blk wr g 96 [.string h.path,.int .i64 h.num,.string h.loc]
 off:v.ownBlock≠some g
 gne:g≠w.heap.size
 len:ps.length≤ss.length
 eq:O++zj5 h (hs.drop (k+1)) ps=z4y hs ss
theorem ReI.under {w wr X:World}{hs:List Hav}{ss:List Syn}{k g:Nat}{h:Hav}{O:List Hav}{ps:List Syn}{v:Value}(H:ReI w wr hs ss k g h O ps v)(hb:Below wr.heap.size wr X):ReI w X hs ss k g h O ps v:=
 ⟨H.aft.under hb,H.box.below hb H.box.lt,H.off,H.gne,H.len,H.eq⟩
theorem ReI.pop0 {w wr:World}{hs:List Hav}{ss:List Syn}{k g:Nat}{h:Hav}{O:List Hav}{x:Syn}{r:List Syn}{v:Value}(H:ReI w wr hs ss k g h O (x :: r) v)(hc:z2u x.path h.path<0)(hp:z4t x=[]):ReI w wr hs ss k g h O r v:=
 ⟨H.aft,H.box,H.off,H.gne,by have:=H.len;rw[List.length_cons] at this;omega,by rw[← H.eq,zj6 hc,hp];rfl⟩
theorem ReI.pop1 {w wr w3:World}{hs:List Hav}{ss:List Syn}{k g:Nat}{h:Hav}{O:List Hav}{x:Syn}{r:List Syn}{v v3:Value}(H:ReI w wr hs ss k g h O (x :: r) v)(hc:z2u x.path h.path<0)(hp:z4t x=z4s x)
  (hA:Aft w w3 w.heap.size (O++z4s x) v3) (hK:Kp w.heap.size wr w3 v v3):ReI w w3 hs ss k g h (O++z4s x) r v3:=by
 obtain⟨b1,b2⟩:=hK.blk H.box H.gne H.off;exact⟨hA,b1,b2,H.gne,by have:=H.len;rw[List.length_cons] at this;omega,by rw[← H.eq,zj6 hc,hp,List.append_assoc]⟩
theorem ReI.room {w wr:World}{hs:List Hav}{ss:List Syn}{k g:Nat}{h:Hav}{O:List Hav}{ps:List Syn}{v:Value}(H:ReI w wr hs ss k g h O ps v)(hl:hs.length+ss.length+1≤1000000):(O.length+1) * 40≤140737488355328:=
 zjd H.eq (zjc hs ss) hl
theorem zje (hs:List Hav)(ss:List Syn)(hv pv:Value)(w:World)(hH:z4b w hv hs)(hS:z4z w pv ss)(hz:∀ x∈hs,x.path.size≤2000000)(hz2:∀ x∈ss,x.path.size≤2000000)(hl:hs.length+2 * ss.length+1≤1000000):
  Calls Tryz.prog 48 #[hv,pv] w fun e w'=>∃ v,e=.returned v∧z4b w' v (z4y hs ss)∧Below w.heap.size w w':=by
 obtain⟨Ah,ch,rfl,-⟩:=id hH;obtain⟨A1,c1,rfl,-⟩:=id hS;have hO:ReO w (w.alloc (.cells #[.slice none 0 0] 28)) hs ss 0 A1 c1 ss.length:=⟨[],ss,.slice none 0 0,rfl,hS,fun _ h=>h,Nat.le_refl _,⟨(Below.refl _ _).alloc (Nat.le_refl _) _,z0l w [.slice none 0 0] _,World.ownsRow_nil _ _ _ _⟩,rfl⟩;have HO:=hd_ hO;have HH:=hd_ hH;have HZ:=hd_ hz;have HZ2:=hd_ hz2;have HL:=hd_ hl;have hkb:hs.length≤1000000:=by omega
 have HL2:=hd_ (show hs.length+ss.length+1≤1000000 by omega)
 clear hH hS hz hz2 hl hO;go_enter Tryz.func48,Tryz.ntmps48;go_wp2_with fail;go_loopw [1,14] (fun p i wr=>∃(k:Nat) (A:Option Addr) (c n:Nat),k≤hs.length∧p=.slice A n c∧i=.int .i64 k∧Hid (ReO w wr hs ss k A c n)) (fun _ i _=>hs.length - (intOf i).toNat)
 case atStart=>exact⟨0,A1,c1,ss.length,Nat.zero_le _,rfl,rfl,HO⟩
 case round =>
  obtain⟨k,A,c,n,hk,rfl,rfl,HI⟩:=hrel;rename ∀ a w,Code.wp _ (Code.seq (Code.seq (Code.region 17 _ _) _) _) _ a w→_=>hkk
  have HKK:=hd_ hkk;clear hkk;obtain⟨O,ps,v,rfl,hps,hmem,hpl,hA,heq⟩:=HI.out;by_cases hlt:k<hs.length
  ·obtain⟨ad,rfl,hab,y0,y1,y2⟩:=z4b.at_ (HH.out.below hA.bel) hlt;have hzk:=HZ.out hs[k] (List.getElem_mem _);rw[List.drop_eq_getElem_cons hlt] at heq;generalize hs[k]=h at y0 y1 y2 heq hzk;have HP:=hd_ hps;have HX0:Hid (ReI w (wr.alloc (.cells #[.string h.path,.int .i64 h.num,.string h.loc] 96)) hs ss k wr.heap.size h O ps v):=hd_ ⟨hA.alloc _,z0l wr [.string h.path,.int .i64 h.num,.string h.loc] _,fun e=>by have:=(hA.row.lt _ e).2;omega,by have:=hA.box.lt;omega,hpl,heq⟩
   clear hps hA heq HI HO;go_wp2_with fail;clear y0 y1 y2 hab;generalize wr.heap.size=g at HX0 ⊢;go_loopw [1] (fun p wq=>∃(A:Option Addr) (c n:Nat) (O:List Hav) (ps:List Syn) (v:Value),p=.slice A n c∧n=ps.length∧Hid (z4z w (.slice A n c) ps)∧(∀ x∈ps,x∈ss)∧Hid (ReI w wq hs ss k g h O ps v)) (fun p _=>ziy p)
   case atStart=>exact⟨A,c,ps.length,O,ps,v,rfl,rfl,HP,hmem,HX0⟩
   case round =>
    obtain⟨A,c,n,O,ps,v,rfl,hn,HP2,hmem2,HR⟩:=hrel;cases ps with
    | nil =>
     have hn':n=0:=hn;have n0:decide (0<n)=false:=by simp;omega
     have HN:=hd_ hn';clear hn hn';go_wp2_with fail;refine wp_region_quiet_below (by kernel_rfl) (by kernel_rfl) ?_
     repeat (first | go_big_quiet_step (fail) | quiet_step (fail))
     refine wpQuiet_nil ?_;intro _ hw9;obtain⟨⟨dq,osq⟩,hw9⟩:=hw9;subst hw9;have HR1:=hd_ (HR.out.under (below_regrown wr dq osq));generalize grow (redrawn wr dq) osq=W1 at HR1 ⊢;go_wp2_with fail;refine wp_region_quiet_below (by kernel_rfl) (by kernel_rfl) ?_
     repeat (first | go_big_quiet_step (fail) | quiet_step (fail))
     refine wpQuiet_nil ?_;intro _ hw9;obtain⟨⟨dq,osq⟩,hw9⟩:=hw9;subst hw9;have HR2:=hd_ (HR1.out.under (below_regrown W1 dq osq));generalize grow (redrawn W1 dq) osq=W2 at HR2 ⊢;have HA2:=hd_ (HR2.out.aft.alloc (.cells #[.string h.path,.int .i64 h.num,.string h.loc] 96));have hbx:W2.cell? ⟨w.heap.size,0,none⟩=some v:=HR2.out.aft.box.cell 0;obtain⟨d0,d1,d2⟩:=z3s (x:=h) HR2.out.box;have hrm:=HR2.out.room HL2.out;have hrow:=z0i W2 [.string h.path,.int .i64 h.num,.string h.loc] 96 3 1 rfl (by unfold maxLen;omega) W2.heap.size rfl
     have hsz:w.heap.size+1≤(W2.alloc (.cells #[.string h.path,.int .i64 h.num,.string h.loc] 96)).heap.size:=by have:=HR2.out.aft.box.lt;simp;omega
     obtain⟨A0,c0,rfl⟩:=z0o HR2.out.aft.row;go_wp2_with (at_builtin;refine z0j rfl rfl z54 HA2.out.row rfl hrow rfl (z55 h) hrm (by unfold maxLen;omega) hsz ?_;intro A' c' w2 hown hgr hob;obtain⟨hA3,hK3⟩:=HA2.out.push (x:=h) hown hgr hob;have hbw:=Blk.grown HA2.out.box hgr (fun e=>by have:=(HA2.out.row.lt w.heap.size e.symm).1;omega);have hfz:=hbw.frozen 0;have hcl:w2.cell? ⟨w.heap.size,0,none⟩=some (.slice A0 O.length c0):=hbw.cell 0)
     go_roundw
     case rel=>exact⟨k+1,A,c,n,by omega,rfl,by go_num,hd_ ⟨O++[h],[],_,HN.out,HP2.out,fun _ h=>(by cases h),Nat.zero_le _,hA3,by rw[← HR2.out.eq,zj7,List.append_assoc];rfl⟩⟩
     case measure=>simp [intOf];omega
    | cons x r =>
     obtain rfl:n=r.length+1:=hn
     obtain⟨-,ad2,rfl,-,-⟩:=HP2.out.head;have HT2:=hd_ HP2.out.tail2;have hxs:=(HZ2.out x (hmem2 x List.mem_cons_self));have HMR:Hid (∀ z∈r,z∈ss):=hd_ (fun z hz=>hmem2 z (List.mem_cons_of_mem _ hz));have HX0X:Hid (x∈ss):=hd_ (hmem2 x List.mem_cons_self);have HLE:Hid (r.length≤ss.length):=hd_ (by have:=HR.out.len;rw[List.length_cons] at this;omega)
     have HSY:Hid (∀ X,Below w.heap.size w X→z50 X ad2 x):=hd_ (fun X hX=>by
      obtain⟨-,ad3,e3,-,h3⟩:=(HP2.out.below hX).head;injection e3 with e3
      subst e3;exact h3)
     have hz0:(0:Int)<((r.length+1:Nat):Int):=by omega
     obtain⟨s0,s1,s2,s3,s4⟩:=HSY.out wr (HR.out.aft.bel);have e1:=cell_regrown s1;have b0:=cell_regrown (z3s (x:=h) HR.out.box).1;have HCMP:=hd_ (fun X=>z40 x.path h.path X (by omega) (by omega))
     have cC:∀ d os,Calls Tryz.prog 55 #[.string x.path,.string h.path] (grow (redrawn wr d) os) fun e w''=>e=.returned (.int .i64 (z2u x.path h.path))∧∃ p:Regrown,w''=grow (redrawn wr p.d) p.os:=fun d os=>Calls.regrown_of ((HCMP.out (grow (redrawn wr d) os)).mono (by rintro e w5 ⟨rfl,n5,rfl⟩;exact⟨rfl,z6x _ _⟩))
     generalize hcv:z2u x.path h.path=cv at cC;by_cases hlc:cv<0
     ·have n2:decide (cv<0)=true:=decide_eq_true hlc;have HLC:Hid (z2u x.path h.path<0):=hd_ (by rw[hcv];exact hlc)
      clear hcv hlc s0 s1 s2 s3 s4;go_wp2_with fail;refine wp_region_quiet_below (by kernel_rfl) (by kernel_rfl) ?_
      repeat (first | go_big_quiet_step (exact cC _ _) | quiet_step (exact cC _ _))
      refine wpQuiet_nil ?_;intro _ hw9;obtain⟨⟨dq,osq⟩,hw9⟩:=hw9;subst hw9;have HR1:=hd_ (HR.out.under (below_regrown wr dq osq));generalize grow (redrawn wr dq) osq=W1 at HR1 ⊢;clear e1 b0 cC n2;obtain⟨s0,s1,s2,s3,s4⟩:=HSY.out W1 (HR1.out.aft.bel);have HST:=hd_ (z3u x W1);cases hst:z3o x.kind with
      | true =>
       have HPU:Hid (z4t x=[]):=hd_ (by unfold z4t;rw[hst];rfl)
       rw[hst] at HST;clear hst;go_wp2_with fail;refine HST.out.mono ?_;rintro e w5 ⟨rfl,hb⟩;have HR2:=hd_ (HR1.out.under hb);clear hb;clear s0 s1 s2 s3 s4;go_wp2_with fail;go_roundw
       case rel=>exact⟨_,_,_,O,r,v,rfl,rfl,HT2,HMR.out,hd_ (HR2.out.pop0 HLC.out HPU.out)⟩
       case measure=>first | (simp [ziy];done) | (simp [ziy];omega)
      | false =>
       have HPU:Hid (z4t x=z4s x):=hd_ (by unfold z4t;rw[hst];rfl)
       rw[hst] at HST;clear hst;go_wp2_with fail;refine HST.out.mono ?_;rintro e w5 ⟨rfl,hb⟩;have HR2:=hd_ (HR1.out.under hb);clear hb;clear s0 s1 s2 s3 s4;obtain⟨s0,s1,s2,s3,s4⟩:=HSY.out w5 (HR2.out.aft.bel);have HAD:=hd_ (z58 x w w5 w.heap.size _ v HR2.out.aft (HR2.out.room HL2.out));go_wp2_with fail;refine HAD.out.mono ?_;rintro e w6 ⟨rfl,v6,h6,k6⟩;have HR3:=hd_ (HR2.out.pop1 HLC.out HPU.out h6 k6);clear h6 k6;clear s0 s1 s2 s3 s4;go_wp2_with fail;go_roundw
       case rel=>exact⟨_,_,_,O++z4s x,r,v6,rfl,rfl,HT2,HMR.out,HR3⟩
       case measure=>first | (simp [ziy];done) | (simp [ziy];omega)
     ·have n2:decide (cv<0)=false:=decide_eq_false hlc;have HLC:Hid (0≤z2u x.path h.path):=hd_ (by rw[hcv];exact Int.not_lt.1 hlc)
      clear hcv hlc s0 s1 s2 s3 s4;go_wp2_with fail;refine wp_region_quiet_below (by kernel_rfl) (by kernel_rfl) ?_
      repeat (first | go_big_quiet_step (exact cC _ _) | quiet_step (exact cC _ _))
      refine wpQuiet_nil ?_;intro _ hw9;obtain⟨⟨dq,osq⟩,hw9⟩:=hw9;subst hw9;have HR1:=hd_ (HR.out.under (below_regrown wr dq osq));generalize grow (redrawn wr dq) osq=W1 at HR1 ⊢;clear e1 b0 cC n2;obtain⟨s0,s1,s2,s3,s4⟩:=HSY.out W1 (HR1.out.aft.bel);have e1:=cell_regrown s1;have b0:=cell_regrown (z3s (x:=h) HR1.out.box).1;have q:=z3x x.path h.path;clear s0 s1 s2 s3 s4;by_cases hp:x.path=h.path
      ·rw[decide_eq_true hp] at q;have HPE:=hd_ hp;clear hp;go_wp2_with fail;refine wp_region_quiet_below (by kernel_rfl) (by kernel_rfl) ?_
       repeat (first | go_big_quiet_step (fail) | quiet_step (fail))
       refine wpQuiet_nil ?_;intro _ hw9;obtain⟨⟨dq,osq⟩,hw9⟩:=hw9;subst hw9;have HR2:=hd_ (HR1.out.under (below_regrown W1 dq osq));generalize grow (redrawn W1 dq) osq=W2 at HR2 ⊢;clear e1 b0;obtain⟨s0,s1,s2,s3,s4⟩:=HSY.out W2 (HR2.out.aft.bel);have HST:=hd_ (z3u x W2);cases hst:z3o x.kind with
       | true =>
        have HM:=hd_ (zj8 (hs:=hs.drop (k+1)) (r:=r) (Int.not_lt.2 HLC.out) HPE.out hst);rw[hst] at HST;clear hst;go_wp2_with fail;refine HST.out.mono ?_;rintro e w5 ⟨rfl,hb⟩;have HR3:=hd_ (HR2.out.under hb);clear hb;clear s0 s1 s2 s3 s4;have HA2:=hd_ (HR3.out.aft.alloc (.cells #[.string h.path,.int .i64 h.num,.string h.loc] 96));have hbx:w5.cell? ⟨w.heap.size,0,none⟩=some v:=HR3.out.aft.box.cell 0;obtain⟨d0,d1,d2⟩:=z3s (x:=h) HR3.out.box;have hrm:=HR3.out.room HL2.out;have hrow:=z0i w5 [.string h.path,.int .i64 h.num,.string h.loc] 96 3 1 rfl (by unfold maxLen;omega) w5.heap.size rfl
        have hsz:w.heap.size+1≤(w5.alloc (.cells #[.string h.path,.int .i64 h.num,.string h.loc] 96)).heap.size:=by have:=HR3.out.aft.box.lt;simp;omega
        obtain⟨A0,c0,rfl⟩:=z0o HR3.out.aft.row;go_wp2_with (at_builtin;refine z0j rfl rfl z54 HA2.out.row rfl hrow rfl (z55 h) hrm (by unfold maxLen;omega) hsz ?_;intro A' c' w2 hown hgr hob;obtain⟨hA3,hK3⟩:=HA2.out.push (x:=h) hown hgr hob;have hbw:=Blk.grown HA2.out.box hgr (fun e=>by have:=(HA2.out.row.lt w.heap.size e.symm).1;omega);have hfz:=hbw.frozen 0;have hcl:w2.cell? ⟨w.heap.size,0,none⟩=some (.slice A0 O.length c0):=hbw.cell 0)
        have HN:=hd_ hA3;clear hK3 hbw hfz hcl;go_wp2_with fail;go_roundw
        case rel=>exact⟨k+1,_,_,_,by omega,rfl,by go_num,hd_ ⟨O++[h],r,_,rfl,HT2.out,HMR.out,HLE.out,HN.out,by rw[← HR2.out.eq,HM.out,List.append_assoc];rfl⟩⟩
        case measure=>simp [intOf];omega
       | false =>
        have HM:=hd_ (resM_go (hs:=hs.drop (k+1)) (r:=r) (Int.not_lt.2 HLC.out) HPE.out hst);rw[hst] at HST;clear hst;go_wp2_with fail;refine HST.out.mono ?_;rintro e w5 ⟨rfl,hb⟩;have HR3:=hd_ (HR2.out.under hb);clear hb;clear s0 s1 s2 s3 s4;obtain⟨s0,s1,s2,s3,s4⟩:=HSY.out w5 (HR3.out.aft.bel);have HAD:=hd_ (z58 x w w5 w.heap.size _ v HR3.out.aft (HR3.out.room HL2.out));go_wp2_with fail;refine HAD.out.mono ?_;rintro e w6 ⟨rfl,v6,h6,k6⟩;have HN:=hd_ h6;clear h6 k6;clear s0 s1 s2 s3 s4;go_wp2_with fail;go_roundw
        case rel=>exact⟨k+1,_,_,_,by omega,rfl,by go_num,hd_ ⟨O++z4s x,r,_,rfl,HT2.out,HMR.out,HLE.out,HN.out,by rw[← HR2.out.eq,HM.out,List.append_assoc]⟩⟩
        case measure=>simp [intOf];omega
      ·have HM:=hd_ (zj9 (hs:=hs.drop (k+1)) (r:=r) (Int.not_lt.2 HLC.out) hp);rw[decide_eq_false hp] at q;clear hp;go_wp2_with fail;refine wp_region_quiet_below (by kernel_rfl) (by kernel_rfl) ?_
       repeat (first | go_big_quiet_step (fail) | quiet_step (fail))
       refine wpQuiet_nil ?_;intro _ hw9;obtain⟨⟨dq,osq⟩,hw9⟩:=hw9;subst hw9;have HR2:=hd_ (HR1.out.under (below_regrown W1 dq osq));generalize grow (redrawn W1 dq) osq=W2 at HR2 ⊢;clear e1 b0;have HA2:=hd_ (HR2.out.aft.alloc (.cells #[.string h.path,.int .i64 h.num,.string h.loc] 96));have hbx:W2.cell? ⟨w.heap.size,0,none⟩=some v:=HR2.out.aft.box.cell 0;obtain⟨d0,d1,d2⟩:=z3s (x:=h) HR2.out.box;have hrm:=HR2.out.room HL2.out;have hrow:=z0i W2 [.string h.path,.int .i64 h.num,.string h.loc] 96 3 1 rfl (by unfold maxLen;omega) W2.heap.size rfl
       have hsz:w.heap.size+1≤(W2.alloc (.cells #[.string h.path,.int .i64 h.num,.string h.loc] 96)).heap.size:=by have:=HR2.out.aft.box.lt;simp;omega
       obtain⟨A0,c0,rfl⟩:=z0o HR2.out.aft.row;go_wp2_with (at_builtin;refine z0j rfl rfl z54 HA2.out.row rfl hrow rfl (z55 h) hrm (by unfold maxLen;omega) hsz ?_;intro A' c' w2 hown hgr hob;obtain⟨hA3,hK3⟩:=HA2.out.push (x:=h) hown hgr hob;have hbw:=Blk.grown HA2.out.box hgr (fun e=>by have:=(HA2.out.row.lt w.heap.size e.symm).1;omega);have hfz:=hbw.frozen 0;have hcl:w2.cell? ⟨w.heap.size,0,none⟩=some (.slice A0 O.length c0):=hbw.cell 0)
       have HN:=hd_ hA3;go_roundw
       case rel=>exact⟨k+1,some ad2,c,r.length+1,by omega,rfl,by go_num,hd_ ⟨O++[h],x :: r,_,rfl,HP2.out,fun z hz=>by rcases List.mem_cons.1 hz with rfl | hz;exact HX0X.out;exact HMR.out z hz,HR2.out.len,HN.out,by rw[← HR2.out.eq,HM.out,List.append_assoc];rfl⟩⟩
       case measure=>simp [intOf];omega
  ·have hT:hs.drop k=[]:=List.drop_of_length_le (by omega)
   rw[hT,z4y] at heq;have HX:=hd_ hA;have HP:=hd_ hps;have HLL:=hd_ (show O.length+ps.length+1≤1000000 by
    have:=congrArg List.length heq;have h2:=zjc hs ss;rw[List.length_append] at this;have:=HL.out;omega)
   have HRR:=hd_ (fun(v':Value) (X:World) (h:Aft w X w.heap.size (O++ps.flatMap z4t) v')=>(⟨v',rfl,by rw[← heq];exact Row.of_own h.row,h.bel⟩:∃ v,Ending.returned v'=.returned v∧z4b X v (z4y hs ss)∧Below w.heap.size w X))
   clear hps hA heq HI HO;go_wp2_with fail;refine HKK.out _ _ (rsT17 _ (by kernel_rfl) (fun e w'=>∃ v,e=.returned v∧z4b w' v (z4y hs ss)∧Below w.heap.size w w') w _ O ps v A c HX.out HP.out HLL.out HRR.out _ _ _ _ _ _ _ _ _ _ _ _ _ _ _ _ _ _ _ _ _ _ _ _ _ _ _ _ _ _ _ _ _ _ _ _ _ _ _ _ _ _ _ _ _ _ _ _ _ _ _ _ _ _ _ _ _ _ _ _ _ _ _ _ _ _ _ _ _ _ _ _ _ _ _ _ _ _ _ _ _ _ _ _ _ _)
structure Frm (wr w':World)(g gw:Nat)(cv cv':Value):Prop where
 os:w'.os=wr.os
 tape:w'.tape=wr.tape
 output:w'.output=wr.output
 size:wr.heap.size≤w'.heap.size
 block:∀ k,k<wr.heap.size→k≠g→k≠gw→cv.ownBlock≠some k→w'.heap[k]? = wr.heap[k]?
 ob:cv'.ownBlock=cv.ownBlock∨∀ x,cv'.ownBlock=some x→wr.heap.size≤x
theorem Frm.of_kept {wr w':World}{g gw:Nat}{cv:Value}(h:z6y [g] wr w'):Frm wr w' g gw cv cv:=⟨h.os,h.tape,h.output,h.size,fun k hk h1 _ _=>h.block k hk (by simpa using h1),.inl rfl⟩
theorem Frm.trans {w1 w2 w3:World}{g gw:Nat}{a b c:Value}(h:Frm w1 w2 g gw a b)(h2:Frm w2 w3 g gw b c):Frm w1 w3 g gw a c:=by
 refine⟨h2.os.trans h.os,h2.tape.trans h.tape,h2.output.trans h.output,Nat.le_trans h.size h2.size,fun k hk h3 h4 h5=>(h2.block k (Nat.lt_of_lt_of_le hk h.size) h3 h4 ?_).trans (h.block k hk h3 h4 h5),?_⟩
 ·rcases h.ob with e | e
  ·rw[e];exact h5
  ·intro e2;have:=e k e2;omega
 ·rcases h2.ob with e | e
  ·rcases h.ob with e' | e'
   ·exact .inl (e.trans e')
   ·exact .inr fun x hx=>e' x (by rw[← e];exact hx)
  ·exact .inr fun x hx=>Nat.le_trans h.size (e x hx)
theorem Frm.blk {wr w':World}{g gw k:Nat}{cv cv':Value}{e:TypeId}{cs:List Value}(h:Frm wr w' g gw cv cv')(hB:Blk wr k e cs)(h1:k≠g)(h2:k≠gw)(h3:cv.ownBlock≠some k):Blk w' k e cs:=(h.block k hB.lt h1 h2 h3).trans hB
theorem WsB.set_at {w wr:World}{U g gw m k i:Nat}{D:List Rev}{dv dr cv u:Value}{l:List Cnk}(h:WsB w wr U g gw m D dv dr cv l)(h1:w.heap.size≤k)(h2:k≠gw)(h3:cv.ownBlock≠some k)(h4:dv.ownBlock≠some k):WsB w (wr.setCell ⟨k,i,none⟩ u) U g gw m D dv dr cv l:=by
 have hb:Below w.heap.size wr (wr.setCell ⟨k,i,none⟩ u):=(Below.refl _ _).setCell (p:=⟨k,i,none⟩) h1 u;exact⟨h.kept.onto hb,h.tape.onto h.UU hb,h.box.far (p:=⟨k,i,none⟩) h2 u,z4r h.cnk (p:=⟨k,i,none⟩) h3 u,Row.set_far h.revs h4,h.gU,h.UU,h.le,fun x hx=>⟨(h.far x hx).1,Nat.lt_of_lt_of_le (h.far x hx).2.1 hb.size,(h.far x hx).2.2⟩⟩
def WcPost (w wr:World)(U g gw m:Nat)(D:List Rev)(dv dr cv:Value)(n:Nat)(e:Ending)(w':World):Prop:=∃(s z:Nat) (cv':Value) (l':List Cnk),e=.returned (.agg #[.int .u64 s,.int .i64 z])∧WsB w w' U g gw m D dv dr cv' l'∧l'.length≤n+1∧Frm wr w' g gw cv cv'
theorem zor {w wr:World}{U g gw m:Nat}{D:List Rev}{dv dr cv:Value}{l:List Cnk}(h:WsB w wr U g gw m D dv dr cv l)(hl:l.length≤100000)(hm:m≤90000):
  Calls Tryz.prog 107 #[.pointer (some ⟨gw,0,none⟩),.pointer (some ⟨g,0,none⟩)] wr (WcPost w wr U g gw (m+5) D dv dr cv l.length):=by
 have hA:Below wr.heap.size wr (wr.alloc (.cells #[.int .u64 0,.int .i64 0] 88)):=(Below.refl _ _).alloc (Nat.le_refl _) _;have hX:Blk _ _ 88 [.int .u64 0,.int .i64 0]:=z0l wr _ _;have hg:=h.gU;have hUU:=h.UU;have hle:=h.le;have hbl:=h.box.lt;have HO:Hid (g<wr.heap.size∧gw<wr.heap.size∧(∀ x,cv.ownBlock=some x→x<wr.heap.size)∧U≤wr.heap.size):=hd_ ⟨by omega,hbl,fun x hx=>(h.cnk.lt x hx).2,by omega⟩
 have HDV:Hid (w.heap.size≤wr.heap.size∧∀ x,dv.ownBlock=some x→x<wr.heap.size):=hd_ ⟨h.kept.size,fun x hx=>(h.far x hx).2.1⟩;have HS:=hd_ (h.under hA);have HF:=hd_ (Frm.of_kept (gw:=gw) (cv:=cv) (z6y.below (S:=[g]) hA));have HX:=hd_ hX;have HY:=hd_ (zop U g m _ (HS.out.tape) (by have:=hA.size;omega) (by omega))
 clear h hA hX hg hUU hle hbl;go_enter Tryz.func107,Tryz.ntmps107;go_upto_region 1 with fail;generalize wr.alloc (.cells #[.int .u64 0,.int .i64 0] 88)=W1 at HS HF HX HY ⊢;have HG4:=hd_ (rfl:wr.heap.size=wr.heap.size);generalize hg4:wr.heap.size=g4 at HX HO HDV HG4 ⊢;go_wp2_with fail;refine HY.out.mono ?_;rintro e w2 ⟨v5,n,rfl,hn,hM,hT2,hK2⟩;dsimp only;have HS2:=hd_ (HS.out.next hK2 hT2);have HF2:=hd_ (HF.out.trans (Frm.of_kept hK2));have HX2:=hd_ (hK2.blk HX.out (by have:=HO.out.1;simp;omega))
 obtain⟨bs,hbs,hB⟩:=hM.row;obtain⟨A5,c5,rfl⟩:∃ A c,v5=.slice A n c:=by obtain⟨g',cap,cur,fz,e1,-⟩:=hM;exact⟨_,_,e1⟩
 have HOF:=hd_ (rOf_any bs _ w2 hB);rw[hbs] at HOF;clear hM hT2 hK2 hbs hB HY HS HF HX;go_wp2_with fail;refine HOF.out.mono ?_;rintro e w3 ⟨⟨r,rfl⟩,hb3⟩;dsimp only;have hb4:=z0r hb3 ((Below.refl w3.heap.size w3).alloc (Nat.le_refl _) (.cells #[.int .u64 r,.int .i64 n] 88));have HS4:=hd_ (HS2.out.under hb4);have HF4:=hd_ (HF2.out.trans (Frm.of_kept (z6y.below hb4)));have HX4:=hd_ (HX2.out.below hb4 HX2.out.lt);have HI4:Hid (Blk _ _ 88 [.int .u64 r,.int .i64 n]):=hd_ (z0l w3 _ _);have HO4:Hid (g4≠w3.heap.size∧g4<w3.heap.size):=hd_ (by have h1:=HX2.out.lt;have h2:=hb3.size;omega)
 clear hb3 hb4 HS2 HF2 HX2 HOF;go_upto_region 3 with fail;generalize w3.alloc (.cells #[.int .u64 r,.int .i64 n] 88)=W4 at HS4 HF4 HX4 HI4 ⊢;generalize w3.heap.size=g6 at HI4 HO4 ⊢;have x0:W4.cell? ⟨g6,0,none⟩=some (.int .u64 r):=HI4.out.cell 0;have x1:W4.cell? ⟨g6,1,none⟩=some (.int .i64 n):=HI4.out.cell 1;have HFI:=hd_ (zoq HS4.out r n (by omega))
 go_wp2_with fail;refine HFI.out.mono ?_;rintro e w5 ⟨⟨A6,n6,c6,b,rfl⟩,hb5⟩;dsimp only;have HS5:=hd_ (HS4.out.under hb5);have HF5:=hd_ (HF4.out.trans (Frm.of_kept (z6y.below hb5)));have HX5:=hd_ (HX4.out.below hb5 HX4.out.lt);have HI5:=hd_ (HI4.out.below hb5 HI4.out.lt);clear hb5 x0 x1 HFI HS4 HF4 HX4 HI4;go_upto_if 20 with fail
 go_cut [] (fun wx=>Hid (∃ cv' l',WsB w wx U g gw (m+5) D dv dr cv' l'∧l'.length≤l.length+1∧Frm wr wx g gw cv cv'∧Blk wx g4 88 [.int .u64 0,.int .i64 0]∧Blk wx g6 88 [.int .u64 r,.int .i64 n]))
 case first =>
  cases b with
  | true =>
   go_wp2_with fail;go_meet
   exact hd_ ⟨cv,l,HS5.out,by omega,HF5.out,HX5.out,HI5.out⟩
  | false =>
   obtain⟨Ac,cc,rfl⟩:=z0o HS5.out.cnk;have HEND:Hid (∀ Y W A' c',Below w5.heap.size w5 Y→Y.grownBy W (Value.slice Ac l.length cc).ownBlock→W.ownsRow (gw+1) 225 3 (.slice A' (l.length+1) c') (l.length+1) (l.flatMap Cnk.cells++[.int .u64 r,.int .i64 n,.slice A5 n c5])→((Value.slice A' (l.length+1) c').ownBlock=(Value.slice Ac l.length cc).ownBlock∨(Value.slice A' (l.length+1) c').ownBlock=some Y.heap.size) →
     (W.cell? ⟨gw,2,none⟩=some (.slice Ac l.length cc)∧W.frozen? ⟨gw,2,none⟩=false)∧Hid (∃ cv' l',WsB w (W.setCell ⟨gw,2,none⟩ (.slice A' (l.length+1) c')) U g gw (m+5) D dv dr cv' l'∧l'.length≤l.length+1∧Frm wr (W.setCell ⟨gw,2,none⟩ (.slice A' (l.length+1) c')) g gw (.slice Ac l.length cc) cv'∧Blk (W.setCell ⟨gw,2,none⟩ (.slice A' (l.length+1) c')) g4 88 [.int .u64 0,.int .i64 0]∧Blk (W.setCell ⟨gw,2,none⟩ (.slice A' (l.length+1) c')) g6 88 [.int .u64 r,.int .i64 n])):=hd_ fun Y W A' c' hY hG hOw hob=>by
    have hSY:=HS5.out.under hY;have hne:some gw≠(Value.slice Ac l.length cc).ownBlock:=fun e=>by have:=(HS5.out.cnk.lt gw e.symm).1;omega
    have hbx:=hSY.box.grown hG hne;have hn4:some g4≠(Value.slice Ac l.length cc).ownBlock:=fun e=>by have:=HO.out.2.2.1 g4 e.symm;omega
    have hn6:some g6≠(Value.slice Ac l.length cc).ownBlock:=fun e=>by have:=HO.out.2.2.1 g6 e.symm;have:=HO4.out.2;omega
    have hgw4:gw≠g4:=by have:=HO.out.2.1;omega
    have hgw6:gw≠g6:=by have:=HO.out.2.1;have:=HO4.out.2;omega
    refine⟨⟨hbx.cell 2,hbx.frozen 2⟩,hd_ ⟨_,l++[⟨r,n,A5,n,c5⟩],hSY.turn hG (by rw[List.length_append,List.flatMap_append];exact hOw) hob,by rw[List.length_append];exact Nat.le_refl _,⟨?_,?_,?_,?_,fun k hk h1 h2 h3=>?_,?_⟩,Blk.far ((HX5.out.below hY HX5.out.lt).grown hG hn4) hgw4 _,Blk.far ((HI5.out.below hY HI5.out.lt).grown hG hn6) hgw6 _⟩⟩
    ·exact (hG.os.trans hY.os).trans HF5.out.os
    ·exact (hG.tape.trans hY.tape).trans HF5.out.tape
    ·exact (hG.output.trans hY.output).trans HF5.out.output
    ·have h1:=HF5.out.size;have h2:=hY.size;have h3:=hG.size;have h4:=(z6z W gw 2 (.slice A' (l.length+1) c')).size;omega
    ·have h4:=(z6z W gw 2 (.slice A' (l.length+1) c')).block k (by have:=hG.size;have:=hY.size;have:=HF5.out.size;omega) (by intro e;injection e with e;exact h2 e)
     have h5:=hG.block k (by have:=hY.size;have:=HF5.out.size;omega) (fun e=>h3 e.symm)
     exact h4.trans (h5.trans ((hY.block k (by have:=HF5.out.size;omega)).trans (HF5.out.block k (by omega) h1 h2 h3)))
    ·rcases hob with e | e
     ·exact .inl e
     ·refine .inr fun x hx=>?_;rw[e] at hx;injection hx with hx
      have:=HF5.out.size;have:=hY.size;omega
   have hdr:Below w5.heap.size w5 w5.drew:=(Below.refl _ _).drew;have hda:Below w5.heap.size w5 (w5.alloc (.cells #[.int .u64 r,.int .i64 n,.slice A5 n c5] 225)).drew:=(zck (Below.refl _ _) _).drew;have HL:Hid (∀ Y,Below w5.heap.size w5 Y→Y.cell? ⟨gw,2,none⟩=some (.slice Ac l.length cc)∧Y.cell? ⟨g6,0,none⟩=some (.int .u64 r)∧Y.cell? ⟨g6,1,none⟩=some (.int .i64 n)):=hd_ fun Y hY=>⟨(HS5.out.box.below hY HS5.out.box.lt).cell 2,(HI5.out.below hY HI5.out.lt).cell 0,(HI5.out.below hY HI5.out.lt).cell 1⟩;have HOW:Hid (∀ Y,Below w5.heap.size w5 Y→Y.ownsRow (gw+1) 225 3 (.slice Ac l.length cc) l.length (l.flatMap Cnk.cells)):=hd_ fun Y hY=>z0n HS5.out.cnk hY;have HDA:=hd_ hda;have HSZ:Hid (gw+1≤(w5.alloc (.cells #[.int .u64 r,.int .i64 n,.slice A5 n c5] 225)).drew.heap.size):=hd_ (by have:=HS5.out.box.lt;have:=hda.size;omega)
   obtain⟨b0,x0,x1⟩:=HL.out w5 (Below.refl _ _);obtain⟨b1,x2,x3⟩:=HL.out _ hdr;obtain⟨b2,x4,x5⟩:=HL.out _ hda;have hl2:l.length≤100000:=hl;go_upto_region 5 with fail;clear hdr hda;refine wp_region_noPanic ?_;go_region_law (first
    | (refine zcj (base:=gw+1) rfl rfl cnkElem (HOW.out _ HDA.out) (by simp [Act.eval,Act.put];done) (Row.drew (z0i w5 [.int .u64 r,.int .i64 n,.slice A5 n c5] _ 3 1 rfl (by decide) _ rfl)) (by simp [Act.eval,Act.put];done) (by simp [Value.oneCell']) (by omega) (by unfold maxLen;omega) HSZ.out ?_;intro A' c' w6 hO6 hG6 hw6;obtain⟨⟨k1,k2⟩,hfin⟩:=HEND.out _ _ _ _ HDA.out hG6 hO6 hw6))
   all_goals
    refine NoPanic.normal ?_;go_wp2_with fail;go_meet
    exact hfin
 case rest =>
  obtain⟨cv',l',hS,hll,hF,hX,hI⟩:=hcut.out;have HE:=hd_ (And.intro hS (And.intro hll hF));obtain⟨x0,x1⟩:=(⟨hI.cell 0,hI.cell 1⟩:wc.cell? ⟨g6,0,none⟩=some (.int .u64 r)∧wc.cell? ⟨g6,1,none⟩=some (.int .i64 n));obtain⟨y0,y1⟩:=(⟨hX.cell 0,hX.cell 1⟩:wc.cell? ⟨g4,0,none⟩=some (.int .u64 0)∧wc.cell? ⟨g4,1,none⟩=some (.int .i64 0));obtain⟨f0,f1⟩:=(⟨hX.frozen 0,hX.frozen 1⟩:wc.frozen? ⟨g4,0,none⟩=false∧wc.frozen? ⟨g4,1,none⟩=false);have HX:=hd_ hX;have HNB:Hid (cv'.ownBlock≠some g4):=hd_ (zkh hS.cnk hX (by decide))
  clear hcut hS hll hF hX hI HS5 HF5 HX5 HI5;go_wp2_with fail;have hd4:dv.ownBlock≠some g4:=fun e=>by have:=HDV.out.2 g4 e;omega
  have hw4:w.heap.size≤g4:=HDV.out.1;have hn4:g4≠gw:=by have:=HO.out.2.1;omega
  have hE:=(HX.out.set_ 0 (.int .u64 (r:Int))).set_ 1 (.int .i64 (n:Int));have hS8:=(HE.out.1.set_at (k:=g4) (i:=0) (u:=.int .u64 (r:Int)) hw4 hn4 HNB.out hd4).set_at (k:=g4) (i:=1) (u:=.int .i64 (n:Int)) hw4 hn4 HNB.out hd4;have hg1:=z6z wc g4 0 (.int .u64 (r:Int));have hg2:=z6z (wc.setCell ⟨g4,0,none⟩ (.int .u64 (r:Int))) g4 1 (.int .i64 (n:Int));have hF8:Frm wr ((wc.setCell ⟨g4,0,none⟩ (.int .u64 (r:Int))).setCell ⟨g4,1,none⟩ (.int .i64 (n:Int))) g gw cv cv':=by
   have hF:=HE.out.2.2;refine⟨(hg2.os.trans hg1.os).trans hF.os,(hg2.tape.trans hg1.tape).trans hF.tape,(hg2.output.trans hg1.output).trans hF.output,Nat.le_trans hF.size (Nat.le_trans hg1.size hg2.size),fun k hk h1 h2 h3=>?_,hF.ob⟩;have hk4:k≠g4:=by omega
   have hsz:=hF.size;exact (hg2.block k (by have:=hg1.size;omega) (by intro e;injection e with e;exact hk4 e)).trans ((hg1.block k (by omega) (by intro e;injection e with e;exact hk4 e)).trans (hF.block k hk h1 h2 h3))
  clear hg1 hg2;generalize (wc.setCell ⟨g4,0,none⟩ (.int .u64 (r:Int))).setCell ⟨g4,1,none⟩ (.int .i64 (n:Int))=W8 at hE hS8 hF8 ⊢;have e0:=hE.cell 0;have e1:=hE.cell 1;exact bodyPost_ret (v:=.agg #[.int .u64 (r:Int),.int .i64 (n:Int)]) (by simp [results,Tryz.results107,go_sem,e0,e1]) rfl ⟨r,n,cv',l',rfl,hS8,HE.out.2.1,hF8⟩
