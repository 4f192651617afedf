/- A part. -/
import Derived.Test.YtlnjaagijaadmaaGreatDoorMvw27
import Derived.Test.YtlnjaagijaadmaaGreatDoorMvw25
set_option linter.unusedVariables false
set_option linter.unusedSimpArgs false
set_option maxHeartbeats 8000000
set_option maxRecDepth 100000
namespace Go.Proofs.YtlnjaagijaadmaaGreatDoor
open Go.RowKit
structure ze2 (es:List zdk):Prop where
 map:zdp es
 fits:∀ p∈z8e,zdz es p
 small:∀ p∈z8e,∀ s,zdy es p=some s->s.size<=200
theorem ze3:∀ x∈z8e,z2y x=true/\x.size<=1000000:=by decide +kernel
theorem ze4 {D:List Rev}{f:zA->Option zA}{m:Int}{p:zA}(h:z38 D p (fun v:Rev=>decide (v.chg<=m))=none):z8i D f m p=none:=by unfold z8i;rw[h]
theorem ze5 {D:List Rev}{f:zA->Option zA}{m:Int}{p:zA}{r:Rev}(h:z38 D p (fun v:Rev=>decide (v.chg<=m))=some r)(hl:z32 r.act=false):z8i D f m p=none:=by unfold z8i;rw[h];simp only;rw[if_neg (by rw[hl];decide)]
theorem ze6 {D:List Rev}{f:zA->Option zA}{m:Int}{p:zA}{r:Rev}(h:z38 D p (fun v:Rev=>decide (v.chg<=m))=some r)(hf:f p=none):z8i D f m p=none:=by unfold z8i;rw[h];simp only;rw[hf];split <;> rfl
theorem ze7 {D:List Rev}{f:zA->Option zA}{m:Int}{p s:zA}{r:Rev}(h:z38 D p (fun v:Rev=>decide (v.chg<=m))=some r)(hl:z32 r.act=true)(hf:f p=some s):z8i D f m p=some ⟨p,r.num,s⟩:=by unfold z8i;rw[h];simp only;rw[if_pos hl,hf];rfl
theorem fm_take {α β:Type}(f:α->Option β)(l:List α)(k:Nat)(hk:k<l.length):(l.take (k+1)).filterMap f=(l.take k).filterMap f++(f l[k]).toList:=by
 rw[Zr hk,List.filterMap_append];cases h:f l[k] with
 | none=>simp [h]
 | some b=>simp [h]
theorem ze8 {D:List Rev}{f:zA->Option zA}{m:Int}{l:List zA}(hs:z71 (fun q:zA=>q) l)(hm:∀ q,q∈l↔∃ r∈D,r.kt=q)(h6:∀ r∈D,r.kt∈z8e):l.filterMap (z8i D f m)=z8j D f m:=by
 have hno:∀ p,p∉l->z8i D f m p=none:=fun p hp=>ze4 (by
  cases hg:z38 D p (fun v:Rev=>decide (v.chg<=m)) with
  | none=>rfl
  | some r =>
   obtain⟨h1,h2,-⟩:=z8k hg;exact absurd ((hm p).2 ⟨r,h1,h2⟩) hp)
 have he:l=z8e.filter (fun p=>decide (p∈l)):=z7c hs (z7g z8f _) fun a=>by
  rw[List.mem_filter,decide_eq_true_eq];refine⟨fun h=>⟨?_,h⟩,fun h=>h.2⟩;obtain⟨r,hr,rfl⟩:=(hm a).1 h;exact h6 r hr
 unfold z8j;suffices h:∀(L:List zA),(L.filter (fun p=>decide (p∈l))).filterMap (z8i D f m)=L.filterMap (z8i D f m) by
  rw[<- h z8e,<- he]
 intro L;induction L with
 | nil=>rfl
 | cons a L ih =>
  by_cases ha:a∈l
  ·rw[List.filter_cons_of_pos (by simpa using ha),List.filterMap_cons,List.filterMap_cons,ih]
  ·rw[List.filter_cons_of_neg (by simpa using ha),List.filterMap_cons,hno a ha,ih]
def WnPost (w:zW)(l:List Hav)(e:Ending)(w':zW):Prop:=∃ v,e=.returned (.tuple #[v,zI 0])/\z5s w' v l/\zB w w'
theorem add_c (a:Int):((a == 1)=true/\(a == 4)=false)\/((a == 1)=false/\(a == 4)=true)\/((a == 1)=false/\(a == 4)=false):=by
 by_cases h1:a=1
 ·subst h1;exact .inl ⟨rfl,rfl⟩
 ·by_cases h4:a=4
  ·subst h4;exact .inr (.inl ⟨rfl,rfl⟩)
  ·exact .inr (.inr ⟨by simpa using h1,by simpa using h4⟩)
theorem weT8 (T:Code)(hT:Tryz.f130.body.bind (tailAt 8)=some T)(R:Ending->zW->Prop)(revs:List Rev)(c:Chg)(x:Edt)(Ar Ae Ac:zP)(dr:zV)(cr ce cc g3 g4 g7:Nat)(w3:zW)
  (hR:z3w w3 (zL Ar revs.length cr) revs) (hl:revs.length<=100000)
  (hD:Blk w3 g3 27 [zL Ar revs.length cr,dr]) (hC:Blk w3 g4 93 [zI c.num,zS c.client,zS c.text,zL Ae c.edits.length ce,zL Ac c.recs.length cc]) (hX:Blk w3 g7 88 [zS x.kt,zI x.act,zI x.ty.base,.bool x.ty.k,.bool x.ty.l,.bool x.ty.x,.int .u64 x.sum,zI x.size,zI x.base,zS x.frm,zI x.fnum,zI x.fence])
  (hRR:∀(n:Int) (w':zW),zB w3 w'->R (.returned (zI n)) w')
  (u0 u1 u2 u5 u6 u8 u9 gH gI gJ gK gL gM gN gO gP gQ gR gT gV gW gX gY gZ i6 i7 i8 ia ib ic ie ig ii ij ik il im io ip iq ir iu iv iw iy iz iA iB iC iD iE iF iG iH iI iJ iK iL iM iN iO iP iQ iR iS iT iU iV iW iX iY iZ j0 j1 j2 j9 jb jd je jf jg jh ji jj jk jl jm jn jo jp jq jr js jt ju bB bD bE bF bG bH bI bJ bK bL bM bN bO bP bQ bT bU bV bW bX bY bZ ca cj cn cx cy cz cA cB cD cF cG cH cI cJ cK cM cN cO cQ cS cZ da db dc dd de:zV) (lv:Bool) (ln:Int) (hbs:0<=x.base/\x.base<=1000000):
  T.wp Tryz.prog (bodyPost Tryz.prog Tryz.f130 R) ⟨#[u0,u1,u2,.pointer (some ⟨g3,0,none⟩),.pointer (some ⟨g4,0,none⟩),u5,u6,.pointer (some ⟨g7,0,none⟩),u8,u9,.bool lv,zI ln,gH,gI,gJ,gK,gL,gM,gN,gO,gP,gQ,gR,gT,gV,gW,gX,gY,gZ,i6,i7,i8,ia,ib,ic,ie,ig,ii,ij,ik,il,im,io,ip,iq,ir,iu,iv,iw,iy,iz,iA,iB,iC,iD,iE,iF,iG,iH,iI,iJ,iK,iL,iM,iN,iO,iP,iQ,iR,iS,iT,iU,iV,iW,iX,iY,iZ,j0,j1,j2,j9,jb,jd,je,jf,jg,jh,ji,jj,jk,jl,jm,jn,jo,jp,jq,jr,js,jt,ju,bB,bD,bE,bF,bG,bH,bI,bJ,bK,bL,bM,bN,bO,bP,bQ,bT,bU,bV,bW,bX,bY,bZ,ca,cj,cn,cx,cy,cz,cA,cB,cD,cF,cG,cH,cI,cJ,cK,cM,cN,cO,cQ,cS,cZ,da,db,dc,dd,de],[]⟩ w3:=by
 simp only[Tryz.f130,Zp,tailAt,hasReg] at hT
 simp at hT
 subst hT;have HRR:=hd_ hRR;have HR:=hd_ hR;have HBS:=hd_ hbs;have HX3:=hd_ hX;have HD3:=hd_ hD;have HC3:=hd_ hC;have HLIVE:=hd_ (fun p X (hX:zB w3 X)=>zgk revs p (zL Ar revs.length cr) dr X (HR.kw hX) (by omega))
 have HT18:=hd_ (fun T hT R W hR hbs hD hC hX hRR=>weT18 T hT R revs c x Ar Ae Ac dr cr ce cc g3 g4 g7 W hR hl hbs hD hC hX hRR);clear hRR hR hD hC hX;obtain⟨c0,c1,c2,c3,c4,c5,c6,c7,c8,c9,c10,c11⟩:=z57 HX3.out;dsimp only;go_upto_region 8 with fail;go_cut [76] (fun v wx=>∃ bb,v=.bool bb/\Hid (wx=w3))
 case first =>
  by_cases hlt1:x.act<1
  case pos =>
   have q:decide (x.act<1)=true:=by simp;omega
   clear hlt1;go_wp2_with fail;go_meet
   exact⟨true,rfl,rfl⟩
  have dlt:decide (x.act<1)=false:=by simp;omega
  by_cases hgt5:5<x.act
  case pos =>
   have q:decide (5<x.act)=true:=by simp;omega
   clear hlt1 hgt5;go_wp2_with fail;go_meet
   exact⟨true,rfl,rfl⟩
  have dgt:decide (5<x.act)=false:=by simp;omega
  clear hlt1 hgt5;rcases add_c x.act with⟨q1,q4⟩ | ⟨q1,q4⟩ | ⟨q1,q4⟩
  all_goals
   cases lv
   all_goals
    go_wp2_with fail;go_meet
    first
     | exact⟨true,rfl,rfl⟩
     | exact⟨false,rfl,rfl⟩
 case rest =>
  obtain⟨bb,rfl,HBB⟩:=hcut;obtain rfl:wc=w3:=HBB.out
  cases bb with
  | true =>
   clear HBB;go_wp2_with fail;exact HRR _ _ (Zb _ _)
  | false =>
   clear HBB;by_cases hbb:x.base=ln
   case neg =>
    have qb:(x.base != ln)=true:=by simpa using hbb
    clear hbb;go_wp2_with fail;exact HRR _ _ (Zb _ _)
   have qb:(x.base != ln)=false:=by simpa using hbb
   clear hbb;go_upto_if 83 with fail
   clear qb;go_cut [] (fun wx=>Hid (zB wc wx))
   case first =>
    by_cases h4:x.act=4
    ·have q4:(x.act == 4)=true:=by simpa using h4
     clear h4;obtain⟨d0,d1,-,-⟩:=box2 HD3.out;have HLV2:=hd_ (HLIVE x.frm wc (Zb _ _));go_wp2_with fail;refine HLV2.mono ?_;rintro e w4 ⟨rfl,hb4⟩;have HW4:=hd_ hb4;have HX4:=hd_ (HX3.kw hb4 HX3.lt);clear hb4 d0 d1 c0 c1 c2 c3 c4 c5 c6 c7 c8 c9 c10 c11;obtain⟨c0,c1,c2,c3,c4,c5,c6,c7,c8,c9,c10,c11⟩:=z57 HX4.out;generalize zgi revs x.frm=lv2;generalize (zf8 (zfc revs x.frm)).num=fn2;cases lv2 with
     | false =>
      go_wp2_with fail;exact HRR _ _ HW4
     | true =>
      by_cases hfn:x.fnum=fn2
      case neg =>
       have qf:(fn2 != x.fnum)=true:=by simp;exact fun h=>hfn h.symm
       clear hfn;go_wp2_with fail;exact HRR _ _ HW4
      have qf:(fn2 != x.fnum)=false:=by simp [hfn]
      have sq:=zev x.frm x.kt;by_cases hfp:x.frm=x.kt
      case pos =>
       rw[decide_eq_true hfp] at sq;clear hfp hfn;go_wp2_with fail;exact HRR _ _ HW4
      rw[decide_eq_false hfp] at sq;clear hfp hfn;go_wp2_with fail;go_meet
      exact HW4
    ·have q4:(x.act == 4)=false:=by simpa using h4
     clear h4;by_cases hfr:x.frm=z2r
     case neg =>
      have s1:=zeu hfr;have s2:=zet hfr;clear hfr;go_wp2_with fail;exact HRR _ _ (Zb _ _)
     have s1:=zes hfr;by_cases hfn:x.fnum=0
     case neg =>
      have qf:(x.fnum != 0)=true:=by simpa using hfn
      clear hfr hfn;go_wp2_with fail;exact HRR _ _ (Zb _ _)
     have qf:(x.fnum != 0)=false:=by simpa using hfn
     clear hfr hfn;go_wp2_with fail;go_meet
     exact hd_ (Zb _ _)
   case rest =>
    rename_i wc2
    have HW4:=hd_ hcut;clear hcut;have hk:=‹∀(a:Act) (w:zW),Code.wp _ _ _ a w->_›;refine hk _ _ (HT18 _ (by kernel_rfl) _ _ (HR.kw HW4) HBS (HD3.kw HW4 HD3.lt) (HC3.kw HW4 HC3.lt) (HX3.kw HW4 HX3.lt) (fun n w' hb=>HRR n w' (z0r HW4 hb)) _ _ _ _ _ _ _ _ _ _ _ _ _ _ _ _ _ _ _ _ _ _ _ _ _ _ _ _ _ _ _ _ _ _ _ _ _ _ _ _ _ _ _ _ _ _ _ _ _ _ _ _ _ _ _ _ _ _ _ _ _ _ _ _ _ _ _ _ _ _ _ _ _ _ _ _ _ _ _ _ _ _ _ _ _ _ _ _ _ _ _ _ _ _ _ _ _ _ _ _ _ _ _ _ _ _ _ _ _ _ _ _ _ _ _ _ _ _ _ _ _ _ _ _ _ _ _ _ _ _ _ _ _ _ _ _ _ _ _ _ _ _ _ _ _)
structure EnP where
  l:Pat
  r:Pat
  hs:List Pat
def okE (x:EnP):Prop:=zbw x.l x.r=0/\(∀ h∈x.hs,z8w h=0)/\x.hs.length<=64
def zmg (x:EnP):Prop:=∃ h∈x.hs,zlq x.l x.r h
def zmh (b1:Pat)(h1:List Pat)(b2:Pat)(h2:List Pat):Prop:=∃ m,zc6 b1 b2=some m/\¬ zly m (h1++h2)
def zmi (x y:EnP):Prop:=zmh x.l x.hs y.l y.hs\/zmh x.r (zlr x.l x.r x.hs) y.r (zlr y.l y.r y.hs)
def zmj (es:List EnP)(err:Int):Prop:=
  (err=70/\∃ x∈es,¬ okE x)\/(err=72/\(∀ x∈es,okE x)/\(32<es.length\/∃ x∈es,zmg x)) \/
  (err=71/\(∀ x∈es,okE x)/\es.length<=32/\(∀ x∈es,¬ zmg x)/\∃(i j:Nat) (hi:i<es.length) (hj:j<i),zmi es[i] (es[j]'(ZZ hj hi))) \/
  (err=0/\(∀ x∈es,okE x)/\es.length<=32/\(∀ x∈es,¬ zmg x)/\∀(i j:Nat) (hi:i<es.length) (hj:j<i),¬ zmi es[i] (es[j]'(ZZ hj hi)))
theorem zmk {es:List EnP}{a b:Int}(h1:zmj es a)(h2:zmj es b):a=b:=by
  rcases h1 with⟨rfl,x,hx,hn⟩ | ⟨rfl,ho,hl⟩ | ⟨rfl,ho,hl,hm,i,j,hi,hj,hc⟩ | ⟨rfl,ho,hl,hm,hc⟩ <;>
  rcases h2 with⟨rfl,y,hy,gn⟩ | ⟨rfl,go,gl⟩ | ⟨rfl,go,gl,gm,i',j',gi,gj,gc⟩ | ⟨rfl,go,gl,gm,gc⟩
  all_goals first
    | rfl
    | exact absurd (go x hx) hn
    | exact absurd (ho y hy) gn
    | (rcases hl with h | ⟨x,hx,h⟩
       · omega
       · exact absurd h (gm x hx))
    | (rcases gl with h | ⟨x,hx,h⟩
       · omega
       · exact absurd h (hm x hx))
    | exact absurd hc (gc i j hi hj)
    | exact absurd gc (hc i' j' gi gj)
theorem zml {l r:Pat}{hs:List Pat}(hr:zbw l r=0)(hn:∀ h∈hs,¬ zlq l r h):∀ g∈zlr l r hs,z8w g=0/\Wi g r:=by
  intro g hg;unfold zlr at hg;obtain⟨h,hm,he⟩:=Yf.1 hg;cases e:zc6 l h with
  | none=>rw[e] at he;cases he
  | some m =>
    rw[e] at he;injection he with he
    rw[<- he];exact zih hr (zhw e).1 (zie e) (fun hc=>hn h hm ⟨m,e,hc⟩)
def SimP (L K:List Pat):Prop:=(∀ k∈K,k∈L)/\∀ h∈L,∃ k∈K,Wi h k
theorem zmm {b1 b2:Pat}{L1 K1 L2 K2:List Pat}(h1:SimP L1 K1)(h2:SimP L2 K2):zmh b1 L1 b2 L2↔zmh b1 K1 b2 K2:=by
  have hv:∀ m,zly m (L1++L2)↔zly m (K1++K2):=fun m=>zm1
    (fun k hk=>(Zy.1 hk).elim (fun h=>List.mem_append_left _ (h1.1 k h)) (fun h=>List.mem_append_right _ (h2.1 k h)))
    (fun h hh=>(Zy.1 hh).elim (fun g=>(h1.2 h g).elim fun k hk=>⟨k,List.mem_append_left _ hk.1,hk.2⟩) (fun g=>(h2.2 h g).elim fun k hk=>⟨k,List.mem_append_right _ hk.1,hk.2⟩))
  unfold zmh;constructor
  · rintro⟨m,a,b⟩;exact⟨m,a,fun h=>b ((hv m).2 h)⟩
  · rintro⟨m,a,b⟩;exact⟨m,a,fun h=>b ((hv m).1 h)⟩
theorem met_all {r:Pat}{G:List Pat}(hr:z8w r=0)(h:∀ g∈G,z8w g=0/\Wi g r):G.filterMap (zc6 r)=G:=by
  induction G with
  | nil=>rfl
  | cons g G ih =>
    have hg:=h g (Zj ..);rw[List.filterMap_cons,meet_wi hg.2 hg.1 hr,ih (fun x hx=>h x (Zh _ hx))]
theorem rBy_ok (es:List zdk)(v:zV)(p:zA)(w:zW)(he:Env w)(hE:zdo w v es)(hl32:es.length<=32)(hz:p.size<=1000000)
  (hF:∀ x∈es,∀ X,zB w X->Calls Tryz.prog 113 #[.agg #[.bool false,x.l.v,.bool x.l.1.kr,x.r.v,.bool x.r.1.kr],zS p] X (zcw X (zcv x.l.1 x.r.1 p))):
  Calls Tryz.prog 60 #[v,zS p] w (zcw w (zdy es p)):=by
 obtain⟨A,c,rfl,-⟩:=id hE.1;have HE:=hd_ (fun X (hX:zB w X)=>hE.kw hX);have HEV:=hd_ (fun X (hX:zB w X)=>he.kw hX);have HF:=hd_ hF;have HAT:=hd_ (fun k hk=>@ze0 es p k hk);have HNO:=hd_ (@ze1 es p);generalize zdy es p=r at HAT HNO |-;clear hE he hF;go_enter Tryz.func60,Tryz.ntmps60;go_wp2_with fail;go_loopw [10] (fun i wr=>∃ k:Nat,i=zI k/\k<=es.length/\Hid (zB w wr/\∀ j (hj:j<es.length),j<k->zdx es[j] p=none)) (fun i _=>es.length - (intOf i).toNat)
 exact⟨0,rfl,Zg _,hd_ ⟨Zb _ _,fun j _ h=>by omega⟩⟩
 obtain⟨k,rfl,hk,HI⟩:=hrel;by_cases hlt:k<es.length
 ·have HBW:=hd_ HI.1;have HEX:=hd_ (HE wr HBW);obtain⟨ad,rfl,hab,s0,s1,s2,s3,s4⟩:=HEX.out.at_ hlt;have HXI:=hd_ (HEX.2 es[k] (Za hlt));have HXF:=hd_ (HF es[k] (Za hlt));have HR1:=hd_ (HAT k hlt HI.2);have HJ:Hid (zdx es[k] p=none->∀ j (hj:j<es.length),j<k+1->zdx es[j] p=none):=hd_ (fun h j hj hjk=>by
   by_cases e:j=k
   ·subst e;exact h
   ·exact HI.2 j hj (by omega))
  generalize es[k]=x at s0 s1 s2 s3 s4 HXI HXF HR1 HJ;obtain⟨H,hc,hhv⟩:=HXI.out.holes;obtain⟨⟨pl,Al,cl⟩,⟨pr,Ar,cr⟩,hv,hs⟩:=x;change hv=zL H hs.length hc at hhv;subst hhv;change wr.cell? _=some (.slice Al pl.kp.length cl) at s0;change wr.cell? _=some (.bool pl.kr) at s1;change wr.cell? _=some (.slice Ar pr.kp.length cr) at s2;change wr.cell? _=some (.bool pr.kr) at s3;change wr.cell? _=some (.slice H hs.length hc) at s4;have hX:zB wr (wr.alloc (zC #[zL Al pl.kp.length cl,.bool pl.kr,zL Ar pr.kp.length cr,.bool pr.kr,zL H hs.length hc] 59)):=zR;have HXP:=hd_ (HXI.kw hX);have HX:=hd_ (z0r HBW hX);have HN:Hid (Blk (wr.alloc (zC #[zL Al pl.kp.length cl,.bool pl.kr,zL Ar pr.kp.length cr,.bool pr.kr,zL H hs.length hc] 59)) wr.heap.size 59 [zL Al pl.kp.length cl,.bool pl.kr,zL Ar pr.kp.length cr,.bool pr.kr,zL H hs.length hc]):=hd_ (z0l wr _ _);have HLT:=hd_ hlt;clear hab hX;go_upto_region 4 with fail;generalize wr.alloc (zC #[zL Al pl.kp.length cl,.bool pl.kr,zL Ar pr.kp.length cr,.bool pr.kr,zL H hs.length hc] 59)=W4 at HX HN HXP |-;generalize wr.heap.size=g7 at HN |-;clear s0 s1 s2 s3 s4;obtain⟨x0,x1,x4⟩:=(⟨HN.out.cell 0,HN.out.cell 1,HN.out.cell 4⟩:W4.cell? ⟨g7,0,none⟩=some (.slice Al pl.kp.length cl)/\W4.cell? ⟨g7,1,none⟩=some (.bool pl.kr)/\W4.cell? ⟨g7,4,none⟩=some (.slice H hs.length hc));have HHA:=hd_ (zr0 pl hs Al H cl hc p W4 (HEV W4 HX) HXP.l HXP.h hz HXP.n);have HONE:Hid (zdx ⟨(pl,Al,cl),(pr,Ar,cr),zL H hs.length hc,hs⟩ p=if zqz pl hs p then zcv pl pr p else none):=hd_ (by
   unfold zdx zqz zcv;cases zaj pl p <;> cases zdu hs p <;> simp)
  have HSM:Hid (zqz pl hs p=true->(zcv pl pr p).isSome=true):=hd_ (by
   unfold zqz zcv;cases zaj pl p <;> simp)
  generalize zqz pl hs p=o at HHA HONE HSM;generalize zcv pl pr p=q at HXF HONE HSM;go_wp2_with fail;refine HHA.mono ?_;rintro e w5 ⟨rfl,hb⟩;dsimp only;have HB:=hd_ (z0r HX hb);have HN5:=hd_ (HN.kw hb HN.lt);clear hb x0 x1 x4 HHA HN;cases o with
  | false =>
   have HNX:=hd_ (HJ HONE);go_wp2_with fail;go_roundw
   exact⟨k+1,by go_num,by omega,hd_ ⟨HB,HNX⟩⟩
   simp [intOf];omega
  | true =>
   have HRR:Hid (r=q):=hd_ (by
    have h1:=HR1.out;rw[HONE.out] at h1;rw[h1];have h2:=HSM.out rfl;cases q with
    | none=>cases h2
    | some s=>rfl)
   have HFW:=hd_ (HXF w5 HB);obtain⟨x0,x1,x2,x3⟩:=(⟨HN5.out.cell 0,HN5.out.cell 1,HN5.out.cell 2,HN5.out.cell 3⟩:w5.cell? ⟨g7,0,none⟩=some (.slice Al pl.kp.length cl)/\w5.cell? ⟨g7,1,none⟩=some (.bool pl.kr)/\w5.cell? ⟨g7,2,none⟩=some (.slice Ar pr.kp.length cr)/\w5.cell? ⟨g7,3,none⟩=some (.bool pr.kr));go_wp2_with fail;refine HFW.mono ?_;rintro e w6 ⟨rfl,hb⟩;dsimp only;have HB6:=hd_ (z0r HB hb);clear hb x0 x1 x2 x3;go_wp2_with fail;go_ret2;exact⟨by rw[HRR.out];rfl,HB6⟩
 ·have hke:k=es.length:=by omega
  subst hke;have HR:=hd_ (HNO (fun j hj=>HI.2 j hj hj));have HB:=hd_ HI.1;have hge:¬((es.length:Int)<(es.length:Int)):=by omega
  go_wp2_with fail;go_ret2;exact⟨by rw[HR.out];rfl,HB⟩
open Go.Sort (grow)
theorem SbW.setB {w wr:zW}{g4 g11 n:Nat}{v:zV}{b b2:Bool}{l:List zA}(h:SbW w wr g4 g11 v b n l):SbW w (wr.setCell ⟨g11,1,none⟩ (.bool b2)) g4 g11 v b2 n l:=
 ⟨h.low.setCell (p:=⟨g11,1,none⟩) (by show w.heap.size<=g11;have:=h.le4;have:=h.le;omega) _,h.le4,h.le,Blk.far h.box4 (by show g11≠g4;have:=h.le;omega) _,Blk.set_ h.box 1 _,z5c h.own (p:=⟨g11,1,none⟩) h.ne _,h.ne4,h.ne⟩
theorem sbR29W (ops:Array Oper)(hops:Tryz.f87.body.bind (z0w 29)=some ops)(Q:Exit->Act->zW->Prop)(w V:zW)(g4 g7 g14 n m c7 c:Nat)(A7 C:zP)(l l2:List zA)(tr:Bool)
  (hI:SbW w V g4 g7 (zL A7 n c7) false n l) (hBB:Blk V g14 213 [zL C m c,.bool tr]) (hS:z20 V (zL C m c) l2) (hl:l.length=n) (hm:l2.length=m) (hle:n+m<=2000) (hne:g14≠g7) (hno:(zL A7 n c7).ownBlock≠some g14) (hCne:0<m->∀ ad,C=some ad->ad.block≠g7)
  (u0 u1 u2 u3 u4 u5 u6 u8 u9 gF gG gH gI gK gL gM gN gO gP gQ gR gT gV gW gX gY gZ i6 i7 i8 ia ib ic ie ig ii ij ik il im io ip iq ir iu iv iw iy iz iA iB iC iD iE iF iG iH iI iJ iK iL iM iN iO iP iQ iR iS iT iU iV iW iX iY iZ j0 j1 j2 j9 jb jd je jf jg jh ji jj jk jl jm jn jo jp jq jr js jt ju bB bD bE bF bG bH bI bJ bK bL bM bN bO bP bQ bT bU bV bW bX bY:zV)
  (hQ:∀(ai aj ak al am ao ap aq ar:zV) (A':zP) (c':Nat) (w':zW),Hid (SbW w w' g4 g7 (zL A' (n+m) c') tr (n+m) (l++l2))->Q .normal ⟨#[u0,u1,u2,u3,u4,u5,u6,.pointer (some ⟨g7,0,none⟩),u8,u9,gF,gG,gH,gI,.pointer (some ⟨g14,0,none⟩),gK,gL,gM,gN,gO,gP,gQ,gR,gT,gV,gW,gX,gY,gZ,i6,i7,i8,ia,ib,ic,ie,ig,ii,ij,ik,il,im,io,ip,iq,ir,iu,iv,iw,iy,iz,iA,iB,iC,iD,iE,iF,iG,iH,iI,iJ,iK,iL,iM,iN,iO,iP,iQ,iR,iS,iT,iU,iV,iW,iX,iY,iZ,j0,j1,j2,j9,jb,jd,je,jf,jg,jh,ji,jj,jk,jl,jm,jn,jo,jp,jq,jr,js,jt,ju,bB,bD,bE,bF,bG,bH,ai,aj,ak,al,am,ao,ap,aq,ar,bT,bU,bV,bW,bX,bY],[]⟩ w'):
  (Code.region 29 ops true).wp Tryz.prog Q ⟨#[u0,u1,u2,u3,u4,u5,u6,.pointer (some ⟨g7,0,none⟩),u8,u9,gF,gG,gH,gI,.pointer (some ⟨g14,0,none⟩),gK,gL,gM,gN,gO,gP,gQ,gR,gT,gV,gW,gX,gY,gZ,i6,i7,i8,ia,ib,ic,ie,ig,ii,ij,ik,il,im,io,ip,iq,ir,iu,iv,iw,iy,iz,iA,iB,iC,iD,iE,iF,iG,iH,iI,iJ,iK,iL,iM,iN,iO,iP,iQ,iR,iS,iT,iU,iV,iW,iX,iY,iZ,j0,j1,j2,j9,jb,jd,je,jf,jg,jh,ji,jj,jk,jl,jm,jn,jo,jp,jq,jr,js,jt,ju,bB,bD,bE,bF,bG,bH,bI,bJ,bK,bL,bM,bN,bO,bP,bQ,bT,bU,bV,bW,bX,bY],[]⟩ V:=by
 simp only[Tryz.f87,Zp,z0w] at hops
 simp at hops
 subst hops;have HQ:=hd_ hQ;have HI:=hd_ hI;obtain⟨x0,x1,f0,f1⟩:=(⟨hI.box.c0,hI.box.c1,hI.box.frozen 0,hI.box.frozen 1⟩:V.cell? ⟨g7,0,none⟩=some (.slice A7 n c7)/\V.cell? ⟨g7,1,none⟩=some (.bool false)/\V.frozen? ⟨g7,0,none⟩=false/\V.frozen? ⟨g7,1,none⟩=false);obtain⟨b0,b1⟩:=(⟨hBB.cell 0,hBB.cell 1⟩:V.cell? ⟨g14,0,none⟩=some (.slice C m c)/\V.cell? ⟨g14,1,none⟩=some (.bool tr));have n1:¬(g14=g7):=hne;have n2:¬(g7=g14):=fun e=>hne e.symm;subst hl hm;have hOW:=hI.own;have hWW:w.heap.size<=V.heap.size:=hI.low.size;have HOWN:=hd_ hOW;have HS:=hd_ hS;have HONE:Hid (∀ v∈l2.map Value.string,v.oneCell'=true):=hd_ (fun v hv=>by obtain⟨x,-,rfl⟩:=ZD.1 hv;rfl)
 have HBB:=hd_ hBB;have HI2:=hd_ (hI.setB (b2:=tr));have HS2:Hid (z20 (V.setCell ⟨g7,1,none⟩ (.bool tr)) (zL C l2.length c) l2):=hd_ (by
  rcases ZU l2.length with h0 | h0
  ·exact Row.empty hS h0
  ·refine Row.set_far hS ?_;intro e;cases C with
   | none=>cases e
   | some ad=>exact hCne h0 ad rfl (by simpa [Value.ownBlock] using e))
 have HNO:=hd_ hno;clear hQ hI hOW hS hBB hCne hno;refine wp_region_noPanic ?_;go_region_law (first
   | (refine step_app (base:=w.heap.size) rfl rfl strElem HOWN (by simp [Act.eval,Act.put];done) HS (by simp [Act.eval,Act.put];done) HONE (by omega) (by unfold maxLen;omega) hWW ?_;intro A5 c5 w5 hO5 hG5 hw5;have hb5:=Blk.grown (Blk.drew' HI.out.box) hG5 (fun e=>HI.out.ne e.symm);have k5:=Blk.frozen hb5 0;have k6:=Blk.frozen hb5 1;have k7:=Blk.cell hb5 0;have k8:=Blk.cell hb5 1;have k9:=(Blk.grown (Blk.drew' HBB.out) hG5 (fun e=>HNO.out e.symm)).cell 1)
   | (refine step_app (base:=w.heap.size) rfl rfl strElem HI2.own (by simp [Act.eval,Act.put];done) HS2 (by simp [Act.eval,Act.put];done) HONE (by omega) (by unfold maxLen;omega) hWW ?_;intro A5 c5 w5 hO5 hG5 hw5;have hb5:=Blk.grown (Blk.drew' HI2.out.box) hG5 (fun e=>HI2.out.ne e.symm);have k5:=Blk.frozen hb5 0;have k6:=Blk.frozen hb5 1;have k7:=Blk.cell hb5 0;have k8:=Blk.cell hb5 1))
 all_goals first
  | exact NoPanic.normal (HQ _ _ _ _ _ _ _ _ _ _ _ _ (hd_ ((HI.app (m:=l2) rfl hO5 ⟨hG5.os,hG5.tape,hG5.output,hG5.size,hG5.block⟩ hw5).setB (b2:=tr))))
  | exact NoPanic.normal (HQ _ _ _ _ _ _ _ _ _ _ _ _ (hd_ (HI2.app (m:=l2) rfl hO5 ⟨hG5.os,hG5.tape,hG5.output,hG5.size,hG5.block⟩ hw5)))
