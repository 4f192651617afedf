/- A part. -/
import Derived.Test.YtijghobkkdbhnaaGreatDoorMcw34
import Derived.Test.YtijghobkkdbhnaaGreatDoorMcw36
import Derived.Test.YtijghobkkdbhnaaGreatDoorMcw32
set_option linter.unusedVariables false
set_option linter.unusedSimpArgs false
set_option maxHeartbeats 16000000
set_option maxRecDepth 100000
namespace Go.Proofs.YtijghobkkdbhnaaGreatDoor
open Go.Proofs.Tryz
open Go.RowKit
open Go.Sort (grow)
def ReO (w wr:World)(hs:List Hav)(ss:List Syn)(k:Nat)(A:Option Addr)(c n:Nat):Prop:=
 ∃(O:List Hav) (ps:List Syn) (v:Value),n=ps.length∧z57 w (.slice A n c) ps∧(∀ x∈ps,x∈ss)∧ps.length≤ss.length∧Aft w wr w.heap.size O v∧O++z56 (hs.drop k) ps=z56 hs ss
structure ReI (w wr:World)(hs:List Hav)(ss:List Syn)(k g:Nat)(h:Hav)(O:List Hav)(ps:List Syn)(v:Value):Prop where
 aft:Aft w wr w.heap.size O v
 box:Blk wr g 96 [.string h.path,.int .i64 h.num,.string h.loc]
 off:v.ownBlock≠some g
 gne:g≠w.heap.size
 len:ps.length≤ss.length
 eq:O++zix h (hs.drop (k+1)) ps=z56 hs ss
theorem ReI.under {w wr X:World}{hs:List Hav}{ss:List Syn}{k g:Nat}{h:Hav}{O:List Hav}{ps:List Syn}{v:Value}(H:ReI w wr hs ss k g h O ps v)(hb:zB wr X):ReI w X hs ss k g h O ps v:=
 ⟨H.aft.under hb,H.box.below hb H.box.lt,H.off,H.gne,H.len,H.eq⟩
theorem ReI.pop0 {w wr:World}{hs:List Hav}{ss:List Syn}{k g:Nat}{h:Hav}{O:List Hav}{x:Syn}{r:List Syn}{v:Value}(H:ReI w wr hs ss k g h O (x :: r) v)(hc:z2z x.path h.path<0)(hp:z4z x=[]):ReI w wr hs ss k g h O r v:=
 ⟨H.aft,H.box,H.off,H.gne,by have:=H.len;rw[List.length_cons] at this;omega,by rw[← H.eq,ziy hc,hp];rfl⟩
theorem ReI.pop1 {w wr w3:World}{hs:List Hav}{ss:List Syn}{k g:Nat}{h:Hav}{O:List Hav}{x:Syn}{r:List Syn}{v v3:Value}(H:ReI w wr hs ss k g h O (x :: r) v)(hc:z2z x.path h.path<0)(hp:z4z x=z4y x)
  (hA:Aft w w3 w.heap.size (O++z4y x) v3) (hK:Kp w.heap.size wr w3 v v3):ReI w w3 hs ss k g h (O++z4y x) r v3:=by
 obtain⟨b1,b2⟩:=hK.blk H.box H.gne H.off;exact⟨hA,b1,b2,H.gne,by have:=H.len;rw[List.length_cons] at this;omega,by rw[← H.eq,ziy hc,hp,List.append_assoc]⟩
theorem ReI.room {w wr:World}{hs:List Hav}{ss:List Syn}{k g:Nat}{h:Hav}{O:List Hav}{ps:List Syn}{v:Value}(H:ReI w wr hs ss k g h O ps v)(hl:hs.length+ss.length+1≤1000000):(O.length+1) * 40≤140737488355328:=
 zj5 H.eq (zj4 hs ss) hl
theorem zj6 (hs:List Hav)(ss:List Syn)(hv pv:Value)(w:World)(hH:z4h w hv hs)(hS:z57 w pv ss)(hz:∀ x∈hs,x.path.size≤2000000)(hz2:∀ x∈ss,x.path.size≤2000000)(hl:hs.length+2 * ss.length+1≤1000000):
  Calls prog 48 #[hv,pv] w fun e w'=>∃ v,e=.returned v∧z4h w' v (z56 hs ss)∧zB w w':=by
 obtain⟨Ah,ch,rfl,-⟩:=id hH;obtain⟨A1,c1,rfl,-⟩:=id hS;have hO:ReO w (w.alloc (.cells #[.slice none 0 0] 28)) hs ss 0 A1 c1 ss.length:=⟨[],ss,.slice none 0 0,rfl,hS,fun _ h=>h,Nat.le_refl _,⟨(Below.refl _ _).alloc (Nat.le_refl _) _,z0l w [.slice none 0 0] _,World.ownsRow_nil _ _ _ _⟩,rfl⟩;have HO:=hd_ hO;have HH:=hd_ hH;have HZ:=hd_ hz;have HZ2:=hd_ hz2;have HL:=hd_ hl;have hkb:hs.length≤1000000:=by omega
 have HL2:=hd_ (show hs.length+ss.length+1≤1000000 by omega)
 clear hH hS hz hz2 hl hO;go_enter func48,ntmps48;go_wp2_with fail;go_loopw [1,14] (fun p i wr=>∃(k:Nat) (A:Option Addr) (c n:Nat),k≤hs.length∧p=.slice A n c∧i=.int .i64 k∧Hid (ReO w wr hs ss k A c n)) (fun _ i _=>hs.length - (intOf i).toNat)
 case atStart=>exact⟨0,A1,c1,ss.length,Nat.zero_le _,rfl,rfl,HO⟩
 case round =>
  obtain⟨k,A,c,n,hk,rfl,rfl,HI⟩:=hrel;rename ∀ a w,Code.wp _ (Code.seq (Code.seq (Code.region 17 _ _) _) _) _ a w→_=>hkk
  have HKK:=hd_ hkk;clear hkk;obtain⟨O,ps,v,rfl,hps,hmem,hpl,hA,heq⟩:=HI.out;by_cases hlt:k<hs.length
  ·obtain⟨ad,rfl,hab,y0,y1,y2⟩:=z4h.at_ (HH.out.below hA.bel) hlt;have hzk:=HZ.out hs[k] (List.getElem_mem _);rw[List.drop_eq_getElem_cons hlt] at heq;generalize hs[k]=h at y0 y1 y2 heq hzk;have HP:=hd_ hps;have HX0:Hid (ReI w (wr.alloc (.cells #[.string h.path,.int .i64 h.num,.string h.loc] 96)) hs ss k wr.heap.size h O ps v):=hd_ ⟨hA.alloc _,z0l wr [.string h.path,.int .i64 h.num,.string h.loc] _,fun e=>by have:=(hA.row.lt _ e).2;omega,by have:=hA.box.lt;omega,hpl,heq⟩
   clear hps hA heq HI HO;go_wp2_with fail;clear y0 y1 y2 hab;generalize wr.heap.size=g at HX0 ⊢;go_loopw [1] (fun p wq=>∃(A:Option Addr) (c n:Nat) (O:List Hav) (ps:List Syn) (v:Value),p=.slice A n c∧n=ps.length∧Hid (z57 w (.slice A n c) ps)∧(∀ x∈ps,x∈ss)∧Hid (ReI w wq hs ss k g h O ps v)) (fun p _=>zie p)
   case atStart=>exact⟨A,c,ps.length,O,ps,v,rfl,rfl,HP,hmem,HX0⟩
   case round =>
    obtain⟨A,c,n,O,ps,v,rfl,hn,HP2,hmem2,HR⟩:=hrel;cases ps with
    | nil =>
     have hn':n=0:=hn;have n0:decide (0<n)=false:=by simp;omega
     have HN:=hd_ hn';clear hn hn';go_wp2_with fail;refine wp_region_quiet_below (by kernel_rfl) (by kernel_rfl) ?_
     repeat (first | go_big_quiet_step (fail) | quiet_step (fail))
     refine wpQuiet_nil ?_;intro _ hw9;obtain⟨⟨dq,osq⟩,hw9⟩:=hw9;subst hw9;have HR1:=hd_ (HR.out.under (below_regrown wr dq osq));generalize grow (redrawn wr dq) osq=W1 at HR1 ⊢;go_wp2_with fail;refine wp_region_quiet_below (by kernel_rfl) (by kernel_rfl) ?_
     repeat (first | go_big_quiet_step (fail) | quiet_step (fail))
     refine wpQuiet_nil ?_;intro _ hw9;obtain⟨⟨dq,osq⟩,hw9⟩:=hw9;subst hw9;have HR2:=hd_ (HR1.out.under (below_regrown W1 dq osq));generalize grow (redrawn W1 dq) osq=W2 at HR2 ⊢;have HA2:=hd_ (HR2.out.aft.alloc (.cells #[.string h.path,.int .i64 h.num,.string h.loc] 96));have hbx:W2.cell? ⟨w.heap.size,0,none⟩=some v:=HR2.out.aft.box.cell 0;obtain⟨d0,d1,d2⟩:=z3x (x:=h) HR2.out.box;have hrm:=HR2.out.room HL2.out;have hrow:=z0i W2 [.string h.path,.int .i64 h.num,.string h.loc] 96 3 1 rfl (by unfold maxLen;omega) W2.heap.size rfl
     have hsz:w.heap.size+1≤(W2.alloc (.cells #[.string h.path,.int .i64 h.num,.string h.loc] 96)).heap.size:=by have:=HR2.out.aft.box.lt;simp;omega
     obtain⟨A0,c0,rfl⟩:=z0o HR2.out.aft.row;go_wp2_with (at_builtin;refine z0j rfl rfl z5a HA2.out.row rfl hrow rfl (z5b h) hrm (by unfold maxLen;omega) hsz ?_;intro A' c' w2 hown hgr hob;obtain⟨hA3,hK3⟩:=HA2.out.push (x:=h) hown hgr hob;have hbw:=Blk.grown HA2.out.box hgr (fun e=>by have:=(HA2.out.row.lt w.heap.size e.symm).1;omega);have hfz:=hbw.frozen 0;have hcl:w2.cell? ⟨w.heap.size,0,none⟩=some (.slice A0 O.length c0):=hbw.cell 0)
     go_roundw
     case rel=>exact⟨k+1,A,c,n,by omega,rfl,by go_num,hd_ ⟨O++[h],[],_,HN.out,HP2.out,fun _ h=>(by cases h),Nat.zero_le _,hA3,by rw[← HR2.out.eq,ziz,List.append_assoc];rfl⟩⟩
     case measure=>simp [intOf];omega
    | cons x r =>
     obtain rfl:n=r.length+1:=hn
     obtain⟨-,ad2,rfl,-,-⟩:=HP2.out.head;have HT2:=hd_ HP2.out.tail2;have hxs:=(HZ2.out x (hmem2 x List.mem_cons_self));have HMR:Hid (∀ z∈r,z∈ss):=hd_ (fun z hz=>hmem2 z (List.mem_cons_of_mem _ hz));have HX0X:Hid (x∈ss):=hd_ (hmem2 x List.mem_cons_self);have HLE:Hid (r.length≤ss.length):=hd_ (by have:=HR.out.len;rw[List.length_cons] at this;omega)
     have HSY:Hid (∀ X,zB w X→z58 X ad2 x):=hd_ (fun X hX=>by
      obtain⟨-,ad3,e3,-,h3⟩:=(HP2.out.below hX).head;injection e3 with e3
      subst e3;exact h3)
     have hz0:(0:Int)<((r.length+1:Nat):Int):=by omega
     obtain⟨s0,s1,s2,s3,s4⟩:=HSY.out wr (HR.out.aft.bel);have e1:=cell_regrown s1;have b0:=cell_regrown (z3x (x:=h) HR.out.box).1;have HCMP:=hd_ (fun X=>z47 x.path h.path X (by omega) (by omega))
     have cC:∀ d os,Calls prog 55 #[.string x.path,.string h.path] (grow (redrawn wr d) os) fun e w''=>e=.returned (.int .i64 (z2z x.path h.path))∧∃ p:Regrown,w''=grow (redrawn wr p.d) p.os:=fun d os=>Calls.regrown_of ((HCMP.out (grow (redrawn wr d) os)).mono (by rintro e w5 ⟨rfl,n5,rfl⟩;exact⟨rfl,z9r _ _⟩))
     generalize hcv:z2z x.path h.path=cv at cC;by_cases hlc:cv<0
     ·have n2:decide (cv<0)=true:=decide_eq_true hlc;have HLC:Hid (z2z x.path h.path<0):=hd_ (by rw[hcv];exact hlc)
      clear hcv hlc s0 s1 s2 s3 s4;go_wp2_with fail;refine wp_region_quiet_below (by kernel_rfl) (by kernel_rfl) ?_
      repeat (first | go_big_quiet_step (exact cC _ _) | quiet_step (exact cC _ _))
      refine wpQuiet_nil ?_;intro _ hw9;obtain⟨⟨dq,osq⟩,hw9⟩:=hw9;subst hw9;have HR1:=hd_ (HR.out.under (below_regrown wr dq osq));generalize grow (redrawn wr dq) osq=W1 at HR1 ⊢;clear e1 b0 cC n2;obtain⟨s0,s1,s2,s3,s4⟩:=HSY.out W1 (HR1.out.aft.bel);have HST:=hd_ (z3z x W1);cases hst:z3t x.kind with
      | true =>
       have HPU:Hid (z4z x=[]):=hd_ (by unfold z4z;rw[hst];rfl)
       rw[hst] at HST;clear hst;go_wp2_with fail;refine HST.out.mono ?_;rintro e w5 ⟨rfl,hb⟩;have HR2:=hd_ (HR1.out.under hb);clear hb;clear s0 s1 s2 s3 s4;go_wp2_with fail;go_roundw
       case rel=>exact⟨_,_,_,O,r,v,rfl,rfl,HT2,HMR.out,hd_ (HR2.out.pop0 HLC.out HPU.out)⟩
       case measure=>first | (simp [zie];done) | (simp [zie];omega)
      | false =>
       have HPU:Hid (z4z x=z4y x):=hd_ (by unfold z4z;rw[hst];rfl)
       rw[hst] at HST;clear hst;go_wp2_with fail;refine HST.out.mono ?_;rintro e w5 ⟨rfl,hb⟩;have HR2:=hd_ (HR1.out.under hb);clear hb;clear s0 s1 s2 s3 s4;obtain⟨s0,s1,s2,s3,s4⟩:=HSY.out w5 (HR2.out.aft.bel);have HAD:=hd_ (z5e x w w5 w.heap.size _ v HR2.out.aft (HR2.out.room HL2.out));go_wp2_with fail;refine HAD.out.mono ?_;rintro e w6 ⟨rfl,v6,h6,k6⟩;have HR3:=hd_ (HR2.out.pop1 HLC.out HPU.out h6 k6);clear h6 k6;clear s0 s1 s2 s3 s4;go_wp2_with fail;go_roundw
       case rel=>exact⟨_,_,_,O++z4y x,r,v6,rfl,rfl,HT2,HMR.out,HR3⟩
       case measure=>first | (simp [zie];done) | (simp [zie];omega)
     ·have n2:decide (cv<0)=false:=decide_eq_false hlc;have HLC:Hid (0≤z2z x.path h.path):=hd_ (by rw[hcv];exact Int.not_lt.1 hlc)
      clear hcv hlc s0 s1 s2 s3 s4;go_wp2_with fail;refine wp_region_quiet_below (by kernel_rfl) (by kernel_rfl) ?_
      repeat (first | go_big_quiet_step (exact cC _ _) | quiet_step (exact cC _ _))
      refine wpQuiet_nil ?_;intro _ hw9;obtain⟨⟨dq,osq⟩,hw9⟩:=hw9;subst hw9;have HR1:=hd_ (HR.out.under (below_regrown wr dq osq));generalize grow (redrawn wr dq) osq=W1 at HR1 ⊢;clear e1 b0 cC n2;obtain⟨s0,s1,s2,s3,s4⟩:=HSY.out W1 (HR1.out.aft.bel);have e1:=cell_regrown s1;have b0:=cell_regrown (z3x (x:=h) HR1.out.box).1;have q:=z42 x.path h.path;clear s0 s1 s2 s3 s4;by_cases hp:x.path=h.path
      ·rw[decide_eq_true hp] at q;have HPE:=hd_ hp;clear hp;go_wp2_with fail;refine wp_region_quiet_below (by kernel_rfl) (by kernel_rfl) ?_
       repeat (first | go_big_quiet_step (fail) | quiet_step (fail))
       refine wpQuiet_nil ?_;intro _ hw9;obtain⟨⟨dq,osq⟩,hw9⟩:=hw9;subst hw9;have HR2:=hd_ (HR1.out.under (below_regrown W1 dq osq));generalize grow (redrawn W1 dq) osq=W2 at HR2 ⊢;clear e1 b0;obtain⟨s0,s1,s2,s3,s4⟩:=HSY.out W2 (HR2.out.aft.bel);have HST:=hd_ (z3z x W2);cases hst:z3t x.kind with
       | true =>
        have HM:=hd_ (zj0 (hs:=hs.drop (k+1)) (r:=r) (Int.not_lt.2 HLC.out) HPE.out hst);rw[hst] at HST;clear hst;go_wp2_with fail;refine HST.out.mono ?_;rintro e w5 ⟨rfl,hb⟩;have HR3:=hd_ (HR2.out.under hb);clear hb;clear s0 s1 s2 s3 s4;have HA2:=hd_ (HR3.out.aft.alloc (.cells #[.string h.path,.int .i64 h.num,.string h.loc] 96));have hbx:w5.cell? ⟨w.heap.size,0,none⟩=some v:=HR3.out.aft.box.cell 0;obtain⟨d0,d1,d2⟩:=z3x (x:=h) HR3.out.box;have hrm:=HR3.out.room HL2.out;have hrow:=z0i w5 [.string h.path,.int .i64 h.num,.string h.loc] 96 3 1 rfl (by unfold maxLen;omega) w5.heap.size rfl
        have hsz:w.heap.size+1≤(w5.alloc (.cells #[.string h.path,.int .i64 h.num,.string h.loc] 96)).heap.size:=by have:=HR3.out.aft.box.lt;simp;omega
        obtain⟨A0,c0,rfl⟩:=z0o HR3.out.aft.row;go_wp2_with (at_builtin;refine z0j rfl rfl z5a HA2.out.row rfl hrow rfl (z5b h) hrm (by unfold maxLen;omega) hsz ?_;intro A' c' w2 hown hgr hob;obtain⟨hA3,hK3⟩:=HA2.out.push (x:=h) hown hgr hob;have hbw:=Blk.grown HA2.out.box hgr (fun e=>by have:=(HA2.out.row.lt w.heap.size e.symm).1;omega);have hfz:=hbw.frozen 0;have hcl:w2.cell? ⟨w.heap.size,0,none⟩=some (.slice A0 O.length c0):=hbw.cell 0)
        have HN:=hd_ hA3;clear hK3 hbw hfz hcl;go_wp2_with fail;go_roundw
        case rel=>exact⟨k+1,_,_,_,by omega,rfl,by go_num,hd_ ⟨O++[h],r,_,rfl,HT2.out,HMR.out,HLE.out,HN.out,by rw[← HR2.out.eq,HM.out,List.append_assoc];rfl⟩⟩
        case measure=>simp [intOf];omega
       | false =>
        have HM:=hd_ (resM_go (hs:=hs.drop (k+1)) (r:=r) (Int.not_lt.2 HLC.out) HPE.out hst);rw[hst] at HST;clear hst;go_wp2_with fail;refine HST.out.mono ?_;rintro e w5 ⟨rfl,hb⟩;have HR3:=hd_ (HR2.out.under hb);clear hb;clear s0 s1 s2 s3 s4;obtain⟨s0,s1,s2,s3,s4⟩:=HSY.out w5 (HR3.out.aft.bel);have HAD:=hd_ (z5e x w w5 w.heap.size _ v HR3.out.aft (HR3.out.room HL2.out));go_wp2_with fail;refine HAD.out.mono ?_;rintro e w6 ⟨rfl,v6,h6,k6⟩;have HN:=hd_ h6;clear h6 k6;clear s0 s1 s2 s3 s4;go_wp2_with fail;go_roundw
        case rel=>exact⟨k+1,_,_,_,by omega,rfl,by go_num,hd_ ⟨O++z4y x,r,_,rfl,HT2.out,HMR.out,HLE.out,HN.out,by rw[← HR2.out.eq,HM.out,List.append_assoc]⟩⟩
        case measure=>simp [intOf];omega
      ·have HM:=hd_ (zj1 (hs:=hs.drop (k+1)) (r:=r) (Int.not_lt.2 HLC.out) hp);rw[decide_eq_false hp] at q;clear hp;go_wp2_with fail;refine wp_region_quiet_below (by kernel_rfl) (by kernel_rfl) ?_
       repeat (first | go_big_quiet_step (fail) | quiet_step (fail))
       refine wpQuiet_nil ?_;intro _ hw9;obtain⟨⟨dq,osq⟩,hw9⟩:=hw9;subst hw9;have HR2:=hd_ (HR1.out.under (below_regrown W1 dq osq));generalize grow (redrawn W1 dq) osq=W2 at HR2 ⊢;clear e1 b0;have HA2:=hd_ (HR2.out.aft.alloc (.cells #[.string h.path,.int .i64 h.num,.string h.loc] 96));have hbx:W2.cell? ⟨w.heap.size,0,none⟩=some v:=HR2.out.aft.box.cell 0;obtain⟨d0,d1,d2⟩:=z3x (x:=h) HR2.out.box;have hrm:=HR2.out.room HL2.out;have hrow:=z0i W2 [.string h.path,.int .i64 h.num,.string h.loc] 96 3 1 rfl (by unfold maxLen;omega) W2.heap.size rfl
       have hsz:w.heap.size+1≤(W2.alloc (.cells #[.string h.path,.int .i64 h.num,.string h.loc] 96)).heap.size:=by have:=HR2.out.aft.box.lt;simp;omega
       obtain⟨A0,c0,rfl⟩:=z0o HR2.out.aft.row;go_wp2_with (at_builtin;refine z0j rfl rfl z5a HA2.out.row rfl hrow rfl (z5b h) hrm (by unfold maxLen;omega) hsz ?_;intro A' c' w2 hown hgr hob;obtain⟨hA3,hK3⟩:=HA2.out.push (x:=h) hown hgr hob;have hbw:=Blk.grown HA2.out.box hgr (fun e=>by have:=(HA2.out.row.lt w.heap.size e.symm).1;omega);have hfz:=hbw.frozen 0;have hcl:w2.cell? ⟨w.heap.size,0,none⟩=some (.slice A0 O.length c0):=hbw.cell 0)
       have HN:=hd_ hA3;go_roundw
       case rel=>exact⟨k+1,some ad2,c,r.length+1,by omega,rfl,by go_num,hd_ ⟨O++[h],x :: r,_,rfl,HP2.out,fun z hz=>by rcases List.mem_cons.1 hz with rfl | hz;exact HX0X.out;exact HMR.out z hz,HR2.out.len,HN.out,by rw[← HR2.out.eq,HM.out,List.append_assoc];rfl⟩⟩
       case measure=>simp [intOf];omega
  ·have hT:hs.drop k=[]:=List.drop_of_length_le (by omega)
   rw[hT,z56] at heq;have HX:=hd_ hA;have HP:=hd_ hps;have HLL:=hd_ (show O.length+ps.length+1≤1000000 by
    have:=congrArg List.length heq;have h2:=zj4 hs ss;rw[List.length_append] at this;have:=HL.out;omega)
   have HRR:=hd_ (fun(v':Value) (X:World) (h:Aft w X w.heap.size (O++ps.flatMap z4z) v')=>(⟨v',rfl,by rw[← heq];exact Row.of_own h.row,h.bel⟩:∃ v,Ending.returned v'=.returned v∧z4h X v (z56 hs ss)∧zB w X))
   clear hps hA heq HI HO;go_wp2_with fail;refine HKK.out _ _ (rsT17 _ (by kernel_rfl) (fun e w'=>∃ v,e=.returned v∧z4h w' v (z56 hs ss)∧zB w w') w _ O ps v A c HX.out HP.out HLL.out HRR.out _ _ _ _ _ _ _ _ _ _ _ _ _ _ _ _ _ _ _ _ _ _ _ _ _ _ _ _ _ _ _ _ _ _ _ _ _ _ _ _ _ _ _ _ _ _ _ _ _ _ _ _ _ _ _ _ _ _ _ _ _ _ _ _ _ _ _ _ _ _ _ _ _ _ _ _ _ _ _ _ _ _ _ _ _ _)
theorem zjz.grownMap {w w':World}{B U b bS:Nat}{f:ByteArray→List Nat}(h:zjz w B U b f)(hg:w.grownBy w' (some bS))(hne:bS≠b)(hm:∃ es c,w.heap[bS]? = some (.map es c)):zjz w' B U b f:=by
 obtain⟨g,h1,h2,h3,h4,h5⟩:=h;obtain⟨es,cc,hm⟩:=hm;refine⟨g,h1.grown hg (fun e=>hne (by injection e with e;exact e.symm)),fun k=>(h2 k).kept hg ?_,h3,h4,h5⟩
 by_cases hb:(zju g k).ownBlock=some bS
 ·exact absurd hm (fun hm=>zjx (h2 k) hb hm)
 ·exact .inr hb
theorem zkh (hs:List Hav)(pl:List Syn)(Ah Ap:Option Addr)(ch g c B:Nat)(X:World)(hAp:0<pl.length→Ap=some ⟨g,0,none⟩)(hH:z4h X (.slice Ah hs.length ch) hs)(hO:zj7 X B (.slice Ap pl.length c) pl)(hOk:zek hs)(hsrt:z6j pl)(hfrm:∀ x∈pl,x.frm=zjg hs x.path)
  (hB:B≤g) (hg:g<X.heap.size) (hn:pl.length≤2000) (hhn:hs.length≤10000):
  Calls prog 47 #[.slice Ah hs.length ch,.slice Ap pl.length c] X fun e w'=>e=.returned (.tuple #[])∧zj7 w' B (.slice Ap pl.length c) (zdz (blB hs pl) pl)∧Below B X w':=by
 have HO:=hd_ hO;have HH:=hd_ hH;have HOK:=hd_ hOk;have HSRT:=hd_ hsrt;have HFRM:=hd_ hfrm;have hmm:=@run_makeMap prog;have HI0:Hid (Bk1 X ((X.alloc (.map #[] 0)).alloc (.map #[] 0)) X.heap.size (X.heap.size+1) (stF pl 0) (zk0 pl 0)):=hd_ (by
  refine⟨((Below.refl _ _).alloc (Nat.le_refl _) _).alloc (by simp) _,(z2k.new Value.string natV X).alloc _,?_,by omega,by omega⟩
  have:=zjz.new (X.alloc (.map #[] 0)) X.heap.size;have e:(X.alloc (.map #[] 0)).heap.size=X.heap.size+1:=by simp
  rw[e] at this;exact this.upTo (by simp))
 clear hO hH hOk hsrt hfrm;go_enter func47,ntmps47;go_upto_region 2 with fail;clear hmm;try simp only[World.size_alloc]
 generalize (X.alloc (.map #[] 0)).alloc (.map #[] 0)=W0 at HI0 ⊢;go_wp2_with fail;go_loopw [20] (fun i wr=>∃ k:Nat,i=.int .i64 k∧k≤pl.length∧Hid (Bk1 X wr X.heap.size (X.heap.size+1) (stF pl k) (zk0 pl k))) (fun i _=>pl.length - (intOf i).toNat)
 case atStart=>exact⟨0,rfl,Nat.zero_le _,HI0⟩
 case round =>
  obtain⟨k,rfl,hk,HJ⟩:=hrel;clear HI0;by_cases hlt:k<pl.length
  ·have HLT:=hd_ hlt;obtain rfl:=hAp (by omega)
   obtain⟨⟨y0,y1,y2,y3,y4⟩,-⟩:=zj7.cell (z0n HO.out HJ.out.low) hlt;have HSF:=hd_ (zk4 hlt);have HCN:=hd_ (comF_no hlt);have HCY:=hd_ (zk1 hlt);generalize pl[k]=x at y0 y1 y2 y3 y4 HSF HCN HCY;have hA:zB wr (wr.alloc (.cells #[.int .i64 x.kind,.string x.path,.int .i64 x.num,.string x.frm,.string x.dst] 50)):=(Below.refl _ _).alloc (Nat.le_refl _) _;have hJ1:=HJ.out.under hA;obtain⟨w3,hup,hM3,hg3,hs3⟩:=z2k.update (w:=wr.alloc (.cells #[.int .i64 x.kind,.string x.path,.int .i64 x.num,.string x.frm,.string x.dst] 50)) hJ1.st (z2i underlying9) underlying162 x.path k;have hup2:(Instr.mapUpdate 162 (.map (some X.heap.size)) (.string x.path) (.int .i64 k)).run prog (wr.alloc (.cells #[.int .i64 x.kind,.string x.path,.int .i64 x.num,.string x.frm,.string x.dst] 50))=.ok () w3:=hup;have HX3:Hid (Blk w3 wr.heap.size 50 [.int .i64 x.kind,.string x.path,.int .i64 x.num,.string x.frm,.string x.dst]):=hd_ ((z0l wr [.int .i64 x.kind,.string x.path,.int .i64 x.num,.string x.frm,.string x.dst] 50).grown hg3 (fun e=>by injection e with e;have:=HJ.out.st.lt;omega))
   have HJ3:Hid (Bk1 X w3 X.heap.size (X.heap.size+1) (stF pl (k+1)) (zk0 pl k)):=hd_
    ⟨hJ1.low.grown hg3 hJ1.low.size (fun y e=>by injection e with e;omega),by rw[HSF.out];exact hM3,by rw[hs3];exact hJ1.com.grownMap hg3 hJ1.ne (zjy hJ1.st),hJ1.ne,hJ1.leC⟩
   have HSZ:=hd_ HJ3.out.low.size;have hxb:=z0l wr [.int .i64 x.kind,.string x.path,.int .i64 x.num,.string x.frm,.string x.dst] 50;obtain⟨z0,z1,z2,z3,z4⟩:=z3w (x:=x) hxb;have hls:(zk0 pl k x.dst).length≤1000000:=Nat.le_trans (zk2 _ _ _) (by omega)
   have HLS:=hd_ hls;clear hA hJ1 hup hM3 hg3 hs3 hxb hls HJ;go_upto_region 6 with fail;clear hup2 y0 y1 y2 y3 y4 z0 z1 z2 z3 z4;generalize wr.heap.size=g7 at HX3 ⊢;obtain⟨z0,z1,z2,z3,z4⟩:=z3w (x:=x) HX3.out;by_cases hd:x.dst=z2q
   ·obtain⟨s1,s2⟩:=z40 hd;have HN:Hid (Bk1 X w3 X.heap.size (X.heap.size+1) (stF pl (k+1)) (zk0 pl (k+1))):=hd_ (by rw[HCN.out hd];exact HJ3.out)
    clear hd;go_wp2_with fail;go_roundw
    case rel=>exact⟨k+1,by go_num,by have:=HLT.out;omega,HN⟩
    case measure=>have:=HLT.out;simp [intOf];omega
   ·obtain⟨s1,s2⟩:=z41 hd;have HCF:=hd_ (HCY.out hd);clear hd;go_upto_region 7 with fail;refine bkR7 _ (by kernel_rfl) _ X w3 g7 X.heap.size (X.heap.size+1) (stF pl (k+1)) (zk0 pl k) x k HJ3.out HX3.out HLS.out HSZ.out ?_
    intro eP eQ eR eS eT eU eV eW eX eY w4 HN;rw[← HCF.out] at HN;go_wp2_with fail;go_roundw
    case rel=>exact⟨k+1,by go_num,by have:=HLT.out;omega,HN⟩
    case measure=>have:=HLT.out;simp [intOf];omega
  ·have hke:k=pl.length:=by omega
   subst hke;have HT:=hd_ (fun(T:Code) hT=>bkT9 T hT (fun e w'=>e=.returned (.tuple #[])∧zj7 w' B (.slice Ap pl.length c) (zdz (blB hs pl) pl)∧Below B X w') X wr B g c X.heap.size (X.heap.size+1) hs pl Ah Ap ch hAp HJ.out (z0n HO.out HJ.out.low) (HJ.out.low.mono (by omega)) (Row.below HH.out HJ.out.low) HOK.out HSRT.out HFRM.out hB hg hn hhn (fun w' h1 h2=>⟨rfl,h1,h2⟩))
   clear HJ;rename ∀ a w,Code.wp _ (Code.seq (Code.region 9 _ _) _) _ a w→_=>hk7
   have HK7:=hd_ hk7;clear hk7;go_wp2_with fail;exact HK7.out _ _ (HT.out _ (by kernel_rfl) _ _ _ _ _ _ _ _ _ _ _ _ _ _ _ _ _ _ _ _ _ _ _ _ _ _ _ _ _ _ _ _ _ _ _ _ _ _ _ _ _ _ _ _ _ _ _ _ _ _ _ _ _ _ _ _ _ _ _ _ _ _ _ _ _ _ _ _ _ _ _ _ _ _ _ _ _ _ _ _ _ _ _ _ _ _ _ _ _ _ _ _ _ _ _ _ _ _ _ _ _ _ _ _ _ _ _ _ _ _ _ _ _ _ _ _ _ _ _ _ _ _ _)
def zkm (hs:List Hav)(pl:List Syn):Int:=if z4m hs=0 then (if 1024<(z56 hs pl).length then 351 else 0) else 350
def zkn (w:World)(hs:List Hav)(pl:List Syn)(e:Ending)(w':World):Prop:=zB w w'∧∃ v,e=.returned (.tuple #[v,.int .i64 (zkm hs pl)])∧z57 w' v (if zkm hs pl=0 then pl else [])
theorem zkn.bad {w w':World}{hs:List Hav}{pl:List Syn}{c:Int}(hc:zkm hs pl=c)(h0:c≠0)(hb:zB w w'):zkn w hs pl (.returned (.tuple #[.slice none 0 0,.int .i64 c])) w':=
 ⟨hb,_,by rw[hc],by rw[hc,if_neg h0];exact Row.nil_ _ 5⟩
theorem zkn.good {w w':World}{hs:List Hav}{pl:List Syn}{v:Value}(hc:zkm hs pl=0)(hb:zB w w')(hv:z57 w' v pl):zkn w hs pl (.returned (.tuple #[v,.int .i64 0])) w':=
 ⟨hb,v,by rw[hc],by rw[hc,if_pos rfl];exact hv⟩
theorem zko (D:List Rev)(es:List zcv)(m:Int)(hs:List Hav)(op dt:List ByteArray)(dv dr mv hv ov tv:Value)(w:World)(he:Env w)(hR:z4c w dv D)(hE:zd1 w mv es)(hl:D.length≤1000000)(h6:∀ r∈D,r.path∈zf0)(hS:zfd es)(h1e:OneE es)(hnum:∀ r∈D,1≤r.num)(hf:zf3 (zdc es))
  (hH:z4h w hv hs) (hsz:∀ x∈hs,x.path.size≤2000000∧x.loc.size≤2000000) (hop:Strs w ov op) (hdt:Strs w tv dt) (hopl:op.length≤1000) (hdtl:dt.length≤1000):
  Calls prog 12 #[.agg #[dv,dr],mv,.int .i64 m,hv,ov,tv] w (zkn w hs (zet hs (zf5 D (zdc es) m) op dt)):=by
 obtain⟨Ah,ch,rfl,-⟩:=id hH;obtain⟨Ao,co,rfl,-⟩:=id hop;obtain⟨At,ct,rfl,-⟩:=id hdt;obtain⟨Ad,cd,rfl,-⟩:=id hR;have hwok:=zf8 (m:=m) hnum hf;have hwl:(zf5 D (zdc es) m).length≤6:=zfa;have HWN:=hd_ (fun X (hX:zB w X)=>zfk D es m (.slice Ad D.length cd) dr mv X (he.below hX) (hR.below hX) (hE.below hX) hl h6 hS h1e);generalize zf5 D (zdc es) m=ws at *;have HHC:Hid (∀ X,zB w X→Calls prog 42 #[.slice Ah hs.length ch] X fun e w'=>e=.returned (.int .i64 (z4m hs))∧zB X w'):=hd_ fun X hX =>
  z4u hs (.slice Ah hs.length ch) X (Row.below hH hX) (fun x hx=>by have:=hsz x hx;omega)
 have HH:=hd_ hH;have HOP:=hd_ hop;have HDT:=hd_ hdt;have HWOK:=hd_ hwok;obtain⟨d0,d1⟩:=(⟨(z0l w [.slice Ad D.length cd,dr] 27).cell 0,(z0l w [.slice Ad D.length cd,dr] 27).cell 1⟩:(w.alloc (.cells #[.slice Ad D.length cd,dr] 27)).cell? ⟨w.heap.size,0,none⟩=some (.slice Ad D.length cd)∧(w.alloc (.cells #[.slice Ad D.length cd,dr] 27)).cell? ⟨w.heap.size,1,none⟩=some dr);have hA:zB w (w.alloc (.cells #[.slice Ad D.length cd,dr] 27)):=(Below.refl _ _).alloc (Nat.le_refl _) _;have HA:=hd_ hA;clear he hR hE hl h6 hS h1e hnum hf hH hsz hop hdt hwok hA;go_enter func12,ntmps12;go_wp2_with fail;refine (HWN.out _ HA.out).mono ?_;rintro e w1 ⟨wv,rfl,hwv,hb1⟩;dsimp only;have HB1:=hd_ (z0r HA.out hb1);obtain⟨Aw,cw,rfl,-⟩:=id hwv;have HWV:=hd_ hwv;clear hb1 hwv d0 d1 HWN;go_wp2_with fail;refine (HHC.out _ HB1.out).mono ?_;rintro e w2 ⟨rfl,hb2⟩;dsimp only;have HB2:=hd_ (z0r HB1.out hb2);by_cases hE:z4m hs=0
 rotate_left
 ·have HPC:Hid (zkm hs (zet hs ws op dt)=350):=hd_ (if_neg hE);have q0:(z4m hs != 0)=true:=by simpa using hE
  generalize z4m hs=cE at q0 ⊢;clear hE hb2 HHC;go_wp2_with fail;go_ret2;exact zkn.bad HPC.out (by decide) HB2.out
 obtain⟨hOk,hhl⟩:=zep.1 hE;have HEZ:=hd_ hE;have HOK:=hd_ hOk;rw[hE];clear hE hOk;have HDF:=hd_ (zif hs ws (.slice Ah hs.length ch) (.slice Aw ws.length cw) w2 (Row.below HH.out HB2.out) (Row.below HWV.out hb2) (fun x hx=>by have:=zkl HOK.out x hx;omega) (fun x hx=>by have:=zkl HWOK.out x hx;omega) (by omega))
 clear hb2 HHC;go_wp2_with fail;refine HDF.out.mono ?_;rintro e w3 ⟨pv,rfl,ho3,hb3⟩;dsimp only;have hps:(z6o (hs.length+ws.length) hs ws).map (zer op dt)=zes hs ws op dt:=rfl;have hpl:=zkj (hs.length+ws.length) hs ws;generalize z6o (hs.length+ws.length) hs ws=ps at ho3 hps hpl;obtain⟨Ap,cp,rfl⟩:=z0o ho3;have HAP:Hid ((Ap=none∧ps.length=0)∨∃ g,w2.heap.size≤g∧g<w3.heap.size∧Ap=some ⟨g,0,none⟩):=hd_ (by
  rcases ho3.2 with⟨e1,e2⟩ | ⟨g,cap,cur,e1,e2,e3,-⟩
  ·injection e1 with e1
   exact .inl ⟨e1,e2⟩
  ·injection e1 with e1
   exact .inr ⟨g,e2,(Array.getElem?_eq_some_iff.1 e3).1,e1⟩)
 have HB3:=hd_ (z0r HB2.out hb3);have HO3:=hd_ ho3;have HPS:=hd_ hps;have HBX:=hd_ hb3;have HS1:=hd_ (zjb op (.slice Ao op.length co) w3 (HOP.out.below HB3.out) (by omega))
 clear ho3 hb3 hps HDF;go_upto_region 7 with fail;rename ∀ a w,Code.wp _ (Code.seq (Code.seq (Code.region 8 _ _) _) _) _ a w→_=>hk7
 have HK7:=hd_ hk7;clear hk7;go_wp2_with fail;refine HS1.out.mono ?_;rintro e w4 ⟨rfl,hs4,hb4⟩;dsimp only;have HB4:=hd_ (z0r HB3.out hb4);have HS4:=hd_ hs4;have HBX4:=hd_ hb4;have HS2:=hd_ (zjb dt (.slice At dt.length ct) w4 (HDT.out.below HB4.out) (by omega))
 clear hs4 hb4 HS1;go_wp2_with fail;refine HS2.out.mono ?_;rintro e w5 ⟨rfl,hs5,hb5⟩;dsimp only;go_wp2_with fail;have hB:w.heap.size≤w2.heap.size:=HB2.out.size;have hl3:w3.heap.size<w4.heap.size:=HS4.out.lt;have hl4:w4.heap.size<w5.heap.size:=hs5.lt;have hl23:w2.heap.size≤w3.heap.size:=HBX.out.size;have hB5:zB w w5:=z0r HB4.out hb5;have hO5:zj7 w5 w2.heap.size (.slice Ap ps.length cp) ps:=z0n (z0n HO3.out HBX4.out) hb5;obtain⟨g8,h81,h82,h83,h84⟩:∃ g,w3.heap.size≠g∧w4.heap.size≠g∧w2.heap.size≤g∧(0<ps.length→Ap=some ⟨g,0,none⟩):=by
  rcases HAP.out with⟨-,e⟩ | ⟨g,e1,e2,e3⟩
  ·exact⟨w5.heap.size,by omega,by omega,by omega,fun h=>by omega⟩
  ·exact⟨g,by omega,by omega,e1,fun _=>e3⟩
 obtain⟨gB,hb1,hb2,hb3⟩:∃ g,w2.heap.size≤g∧g<w5.heap.size∧(0<ps.length→Ap=some ⟨g,0,none⟩):=by
  rcases HAP.out with⟨-,e⟩ | ⟨g,e1,e2,e3⟩
  ·exact⟨w2.heap.size,Nat.le_refl _,by omega,fun h=>by omega⟩
  ·exact⟨g,e1,by omega,fun _=>e3⟩
 have hH2:∀ X,Below w2.heap.size w5 X→zB w X:=fun X hX=>hB5.trans (hX.mono hB);have hpz:∀ x∈zdz (blB hs (ps.map (zer op dt))) (ps.map (zer op dt)),x.path.size≤2000000:=fun x hx=>by
  obtain⟨y,hy,rfl⟩:=List.mem_map.1 hx;rw[ze0];rw[HPS.out] at hy;obtain⟨z,hz,rfl⟩:=List.mem_map.1 hy;rcases z6q _ _ _ z hz with⟨h,h1,h2⟩ | ⟨h,h1,h2⟩
  ·have:=(zkl HOK.out h h1).1;show z.path.size≤_
   rw[← h2];omega
  ·have:=(zkl HWOK.out h h1).1;show z.path.size≤_
   rw[← h2];omega
 have hsp:=(zex (op:=op) (dt:=dt) HOK.out HWOK.out).1;have hfr:=zkk (op:=op) (dt:=dt) HOK.out HWOK.out;rw[← HPS.out] at hsp hfr;have hlm:(ps.map (zer op dt)).length=ps.length:=List.length_map _;have hPL:zet hs ws op dt=zdz (blB hs (ps.map (zer op dt))) (ps.map (zer op dt)):=by unfold zet;rw[← HPS.out]
 refine HK7.out _ _ (plT8 _ (by kernel_rfl) _ w5 w2.heap.size w3.heap.size w4.heap.size g8 cp Ap ps op dt h84 ⟨by rw[List.take_zero,List.drop_zero];exact hO5,z2k.below HS4.out hb5,hs5,Below.refl _ _⟩ h81 h82 h83 (by omega) (by omega) hs (z56 hs (zdz (blB hs (ps.map (zer op dt))) (ps.map (zer op dt)))) Ah ch (zdz (blB hs (ps.map (zer op dt))) (ps.map (zer op dt))) (fun X hX hO=>?_) (fun X hX hO=>?_) (fun h X hX=>?_) (fun h X hX hO=>?_) _ _ _ _ _ _ _ _ _ _ _ _ _ _ _ _ _ _ _ _ _ _ _ _ _ _ _ _ _ _ _ _ _ _ _ _ _ _ _ _ _ _ _ _ _ _ _ _ _ _ _ _ _ _ _ _ _ _ _ _ _ _ _ _ _ _ _ _ _ _ _ _ _ _ _ _ _ _ _ _ _ _ _ _ _ _ _ _ _ _ _ _ _)
 ·have hbk:=zkh hs (ps.map (zer op dt)) Ah Ap ch gB cp w2.heap.size X (fun h=>hb3 (by rw[hlm] at h;exact h)) (Row.below HH.out (hH2 X hX)) (by rw[hlm];exact hO) HOK.out hsp hfr hb1 (by have:=hX.size;omega) (by rw[hlm];omega) (by omega)
  rw[hlm] at hbk;exact hbk
 ·have hS:z57 X (.slice Ap ps.length cp) (zdz (blB hs (ps.map (zer op dt))) (ps.map (zer op dt))):=Row.of_own hO;exact zj6 hs _ _ _ X (Row.below HH.out (hH2 X hX)) hS (fun x hx=>by have:=(zkl HOK.out x hx).1;omega) hpz (by rw[markL_len,hlm];omega)
 ·exact zkn.bad (by unfold zkm;rw[if_pos HEZ.out,hPL,if_pos h]) (by decide) (hH2 X hX)
 ·exact zkn.good (by unfold zkm;rw[if_pos HEZ.out,hPL,if_neg h]) (hH2 X hX) (by rw[hPL];exact Row.of_own hO)
theorem zkp (D:List Rev)(es:List zcv)(m:Int)(hs:List Hav)(op dt:List ByteArray)(dv dr mv hv ov tv:Value)(w:World)(he:Env w)(hR:z4c w dv D)(hE:zd1 w mv es)(hl:D.length≤1000000)(h6:∀ r∈D,r.path∈zf0)(hS:zfd es)(h1e:OneE es)(hnum:∀ r∈D,1≤r.num)(hf:zf3 (zdc es))
  (hH:z4h w hv hs) (hOk:zek hs) (hhl:hs.length≤100) (hop:Strs w ov op) (hdt:Strs w tv dt) (hopl:op.length≤1000) (hdtl:dt.length≤1000):
  Calls prog 12 #[.agg #[dv,dr],mv,.int .i64 m,hv,ov,tv] w (zki w (zet hs (zf5 D (zdc es) m) op dt)):=
 (zko D es m hs op dt dv dr mv hv ov tv w he hR hE hl h6 hS h1e hnum hf hH (fun x hx=>by have:=zkl hOk x hx;omega) hop hdt hopl hdtl).mono fun e w' h=>by
  have hwl:(zf5 D (zdc es) m).length≤6:=zfa;have hc:zkm hs (zet hs (zf5 D (zdc es) m) op dt)=0:=by
   unfold zkm;rw[if_pos (zep.2 ⟨hOk,by omega⟩),if_neg]
   have h1:=zj4 hs (zet hs (zf5 D (zdc es) m) op dt);have h2:(zet hs (zf5 D (zdc es) m) op dt).length≤hs.length+(zf5 D (zdc es) m).length:=by
    unfold zet zes;rw[markL_len,List.length_map];exact zkj _ _ _
   omega
  obtain⟨hb,v,e1,hv⟩:=h;rw[hc] at e1 hv;rw[if_pos rfl] at hv;exact⟨v,e1,hv,hb⟩
theorem zmc {D:List Rev}{n:Nat}(h:zm7 D n):∀ r∈D,r.num≤n:=fun r hr=>by
 obtain⟨i,hi,e⟩:=List.getElem_of_mem (zgb.2 ⟨hr,rfl⟩:r∈zga D r.path);have h1:=h.num r.path i hi;rw[e] at h1;have h2:=zgh D r.path;have:=h.len;omega
theorem zf3.of_congr {f g:ByteArray→Option ByteArray}(h:zf3 g)(e:∀ p∈zf0,f p=g p):zf3 f:=
 ⟨fun p hp l hl=>h.path p hp l (by rw[← e p hp];exact hl),fun p hp q hq l h1 h2=>h.inj p hp q hq l (by rw[← e p hp];exact h1) (by rw[← e q hq];exact h2)⟩
structure zmd (w wr:World)(U g m B B2:Nat)(WL:List Hav)(k:Nat)(out:List Hav)(gv c:Nat)(A2:Option Addr)(c2:Nat)(y:Hav):Prop where
 kept:z9s [g] w wr
 tape:zg0 wr U g m
 own:∃ xs,wr.ownsRow B 96 3 (.slice (some ⟨gv,0,none⟩) WL.length c) WL.length xs∧(∀ j,(k+1) * 3≤j→xs[j]? = (WL.flatMap Hav.cells)[j]?)∧xs[k * 3]? = some (.string y.path)∧xs[k * 3+1]? = some (.int .i64 y.num)∧xs[k * 3+2]? = some (.string y.loc)
 out:wr.ownsRow B2 96 3 (.slice A2 out.length c2) out.length (out.flatMap Hav.cells)
 le:w.heap.size≤B
 le2:gv<B2
 gU:g<w.heap.size
 UU:U≤w.heap.size
 b2:B2≤wr.heap.size
section
variable {w wr w' : World} {U g m m' B B2 k gv c c2 : Nat} {WL out : List Hav} {A2 : Option Addr} {y : Hav}
theorem zmd.gv_ge (h:zmd w wr U g m B B2 WL k out gv c A2 c2 y):B≤gv∧w.heap.size≤gv:=by
 obtain⟨xs,h1,-,h2,-⟩:=h.own;have:=(z9x h1 h2).2.2;exact⟨this,Nat.le_trans h.le this⟩
theorem zmd.next (h:zmd w wr U g m B B2 WL k out gv c A2 c2 y)(hK:z9s [g] wr w')(hT:zg0 w' U g m'):zmd w w' U g m' B B2 WL k out gv c A2 c2 y:=by
 have hg:=h.gv_ge;have hgU:=h.gU;have hle:=h.le;have hle2:=h.le2;obtain⟨xs,h1,h2⟩:=h.own;exact⟨h.kept.trans hK,hT,⟨xs,zkv h1 hK (fun x hx=>by have:=(h1.lt x hx).1;rw[List.mem_singleton];omega),h2⟩,zkv h.out hK (fun x hx=>by have:=(h.out.lt x hx).1;rw[List.mem_singleton];omega),h.le,h.le2,h.gU,h.UU,Nat.le_trans h.b2 hK.size⟩
theorem zmd.under (h:zmd w wr U g m B B2 WL k out gv c A2 c2 y)(hb:zB wr w'):zmd w w' U g m B B2 WL k out gv c A2 c2 y:=h.next (z9s.below hb) (h.tape.below hb)
theorem zmd.cells (h:zmd w wr U g m B B2 WL k out gv c A2 c2 y):(wr.cell? ⟨gv,k * 3,none⟩=some (.string y.path)∧wr.cell? ⟨gv,k * 3+1,none⟩=some (.int .i64 y.num)∧wr.cell? ⟨gv,k * 3+2,none⟩=some (.string y.loc))∧wr.frozen? ⟨gv,k * 3+1,none⟩=false∧wr.frozen? ⟨gv,k * 3+2,none⟩=false:=by
 obtain⟨xs,h1,-,h2,h3,h4⟩:=h.own;exact⟨⟨(z9x h1 h2).1,(z9x h1 h3).1,(z9x h1 h4).1⟩,(z9x h1 h3).2.1,(z9x h1 h4).2.1⟩
theorem zmd.set_ (h:zmd w wr U g m B B2 WL k out gv c A2 c2 y)(i:Nat)(u:Value)(y':Hav)(hi:i<3)
  (h0:[Value.string y'.path,.int .i64 y'.num,.string y'.loc]=[Value.string y.path,.int .i64 y.num,.string y.loc].set i u):zmd w (wr.setCell ⟨gv,k * 3+i,none⟩ u) U g m B B2 WL k out gv c A2 c2 y':=by
 obtain⟨h5,h6⟩:=h.gv_ge;have hUU:=h.UU;have hgU:=h.gU;have hb:Below w.heap.size wr (wr.setCell ⟨gv,k * 3+i,none⟩ u):=(Below.refl w.heap.size wr).setCell (p:=⟨gv,k * 3+i,none⟩) h6 u;have hg:=z9t wr gv (k * 3+i) u;obtain⟨xs,h1,h2,h3⟩:=h.own;have ht:zg0 (wr.setCell ⟨gv,k * 3+i,none⟩ u) U g m:=h.tape.keep hg.size fun x hx=>hb.block x (by omega)
 refine⟨h.kept.onto hb,ht,⟨xs.set (k * 3+i) u,z9w h1 u,fun j hj=>?_,?_⟩,z4w h.out hg (fun x hx e=>by injection e with e;have:=(h.out.lt x hx).1;have:=h.le2;omega),h.le,h.le2,h.gU,h.UU,Nat.le_trans h.b2 hg.size⟩
 ·rw[List.getElem?_set_ne (by omega)];exact h2 j hj
 ·have hl:∀ j,j<3→(xs.set (k * 3+i) u)[k * 3+j]? = ([Value.string y.path,.int .i64 y.num,.string y.loc].set i u)[j]?:=by
   intro j hj;have hx:xs[k * 3+j]? = [Value.string y.path,.int .i64 y.num,.string y.loc][j]?:=by
    match j,hj with
    | 0,_=>exact h3.1
    | 1,_=>exact h3.2.1
    | 2,_=>exact h3.2.2
   by_cases e:i=j
   ·subst e;rw[List.getElem?_set_self (by have:=(List.getElem?_eq_some_iff.1 h3.2.2).1;omega),List.getElem?_set_self hi]
   ·rw[List.getElem?_set_ne (by omega),List.getElem?_set_ne e,hx]
  rw[← h0] at hl;exact⟨hl 0 (by omega),hl 1 (by omega),hl 2 (by omega)⟩
structure HlSt (w wr:World)(U g m B B2:Nat)(WL:List Hav)(k:Nat)(out:List Hav)(lv:Value)(A2:Option Addr)(c2:Nat):Prop where
 kept:z9s [g] w wr
 tape:zg0 wr U g m
 own:∃ xs,wr.ownsRow B 96 3 lv WL.length xs∧(∀ j,k * 3≤j→xs[j]? = (WL.flatMap Hav.cells)[j]?)
 out:wr.ownsRow B2 96 3 (.slice A2 out.length c2) out.length (out.flatMap Hav.cells)
 le:w.heap.size≤B
 le2:∀ x,lv.ownBlock=some x→x<B2
 gU:g<w.heap.size
 UU:U≤w.heap.size
 b2:B2≤wr.heap.size
theorem HlSt.into {lv:Value}(h:HlSt w wr U g m B B2 WL k out lv A2 c2)(hk:k<WL.length):∃ gv c,lv=.slice (some ⟨gv,0,none⟩) WL.length c∧zmd w wr U g m B B2 WL k out gv c A2 c2 WL[k]:=by
 obtain⟨xs,h1,h2⟩:=h.own;obtain⟨gv,c,e⟩:=z0s h1 (by omega)
 subst e;have hf:=fun j hj=>z4b Hav.cells 3 (fun _=>rfl) WL k j hk hj;exact⟨gv,c,rfl,h.kept,h.tape,⟨xs,h1,fun j hj=>h2 j (by omega),by have:=hf 0 (by omega);rw[Nat.add_zero] at this;rw[h2 _ (by omega),this];rfl,by rw[h2 _ (by omega),hf 1 (by omega)];rfl,by rw[h2 _ (by omega),hf 2 (by omega)];rfl⟩,h.out,h.le,h.le2 gv rfl,h.gU,h.UU,h.b2⟩
theorem zmd.back (h:zmd w wr U g m B B2 WL k out gv c A2 c2 y):HlSt w wr U g m B B2 WL (k+1) out (.slice (some ⟨gv,0,none⟩) WL.length c) A2 c2:=by
 obtain⟨xs,h1,h2,-⟩:=h.own;exact⟨h.kept,h.tape,⟨xs,h1,h2⟩,h.out,h.le,(fun x e=>by injection e with e;subst e;exact h.le2),h.gU,h.UU,h.b2⟩
theorem zmd.push {w6:World}{A':Option Addr}{c':Nat}(h:zmd w wr U g m B B2 WL k out gv c A2 c2 y)(ho:w6.ownsRow B2 96 3 (.slice A' (out.length+1) c') (out.length+1) (out.flatMap Hav.cells++[.string y.path,.int .i64 y.num,.string y.loc]))(hg:wr.grownBy w6 (Value.slice A2 out.length c2).ownBlock):
  HlSt w w6 U g m B B2 WL (k+1) (out++[y]) (.slice (some ⟨gv,0,none⟩) WL.length c) A' c':=by
 obtain⟨h5,h6⟩:=h.gv_ge;have hle2:=h.le2;have hK:z9s [g] w w6:=h.kept.grown_own hg (fun x e=>by have:=(h.out.lt x e).1;omega)
 obtain⟨xs,h1,h2,-⟩:=h.own;refine⟨hK,h.tape.keep hg.size fun x hx=>hg.block x (Nat.lt_of_lt_of_le hx (Nat.le_trans h.UU h.kept.size)) (fun e=>by have:=(h.out.lt x e.symm).1;have:=h.UU;omega),⟨xs,z4w h1 hg (fun x hx e=>by have:=(h.out.lt x e).1;have hx':gv=x:=(by injection hx);omega),h2⟩,?_,h.le,(fun x e=>by injection e with e;subst e;exact h.le2),h.gU,h.UU,Nat.le_trans h.b2 hg.size⟩
 rw[List.length_append,List.flatMap_append];exact ho
end
