/- The statement DiaryFreeTimesSaid: for every input the law returns true, and its arguments read as before. -/
import Derived.Test.YtkclokcenllhmaaGreatL8
import Derived.Test.YtkclokcenllhmaaGreatL5
import Derived.Test.YtkclokcenllhmaaGreatL7
import Derived.Test.YtkclokcenllhmaaGreatL1
import Derived.Test.YtkclokcenllhmaaGreatL3
set_option linter.unusedVariables false
set_option linter.unusedSimpArgs false
set_option maxRecDepth 100000
set_option maxHeartbeats 4000000
section
variable {a b:Int}{w w':Go.World}
namespace Go.Proofs.YtkclokcenllhmaaGreat
open Go.RowKit Go.Maps Kal
theorem vv_ {N:List Spn} (h:NS N) (hn:∀ t,¬ SpM N t):N.length=0:=by
 rcases N with _|⟨s,N⟩
 ·rfl
 ·exact absurd ⟨s,sq_,Int.le_refl _,h.pos s sq_⟩ (hn s.1)
theorem vw_ {N:List Spn} {t:Int} (h:SpM N t):0<N.length:=by
 obtain ⟨s,hs,_⟩:=h;exact List.length_pos_of_mem hs
open Classical in
theorem tu_ {u v:Int} {N:List Spn} {e:Ending} (hw:WinB a b) (hN:∃ d,BusyTo d a b N) (h1:-300000≤u∧u≤300000) (h2:-300000≤v∧v≤300000) (h:eb_ (fun x y=>x && y) N [(u,v)] w e w') :
  ∃ r R,e=.returned (.tuple #[r,.int .i64 0])∧NS R∧(∀ t,SpM R t↔SpM N t∧u≤t∧t<v)∧(∃ ra rc,r=.slice ra R.length rc)∧Below w.heap.size w w':=by
 obtain ⟨d,hN⟩:=hN;have hf1:=Go.Proofs.YtkclokcenllhmaaGreat.BusyTo.near hN hw;have hf2:([(u,v)]:List Spn).any farS=false:=ii_ fun s hs=>by
  obtain rfl:=List.mem_singleton.1 hs;dsimp only;omega
 rcases h with ⟨h,_⟩|⟨_,r,R,h3,h4,h5,_,h7,h8⟩
 ·rw [hf1,hf2] at h;cases h
 ·refine ⟨r,R,h3,h4,fun t=>(h5 t).trans ?_,h7.form,h8⟩;rw [Bool.and_eq_true,decide_eq_true_eq,decide_eq_true_eq];refine and_congr Iff.rfl ?_;constructor
  ·rintro ⟨s,hs,g1,g2⟩;obtain rfl:=List.mem_singleton.1 hs;exact ⟨g1,g2⟩
  ·rintro ⟨g1,g2⟩;exact ⟨(u,v),sq_,g1,g2⟩
theorem ro_:∀ {N:List Spn} {a b:Int},NS N->(∀ s∈N,a≤s.1∧s.2≤b)->N.length=0∨(N.length:Int)≤b-a
 | [],_,_,_,_=>.inl rfl
 | x :: l,a,b,h,g=>by
  have h1:=h.pos x sq_;have h2:=g x sq_;rw [List.length_cons];rcases ro_ (a:=x.2+1) (b:=b) h.tail (fun s hs=>⟨by have:=(List.pairwise_cons.1 h.gap).1 s hs;omega,(g s (by simp [hs])).2⟩) with h3|h3
  ·exact .inr (by rw [h3];simp;omega)
  ·exact .inr oq_
theorem sy_ {d:List Ent} {N:List Spn} (h:BusyTo d a b N) (hw:WinB a b):N.length≤30000:=by
 have:=hw.sz;rcases ro_ (a:=a) (b:=b) h.1 (fun s hs=>by
  have h0:=h.1.pos s hs;have h1:=(h.2 s.1).1 ⟨s,hs,oq_,h0⟩;have h2:=(h.2 (s.2-1)).1 ⟨s,hs,oq_,oq_⟩;exact ⟨h1.1,by have:=h2.2.1;omega⟩) with h3|h3 <;> omega
theorem wq_ {m k q:Int} (h1:0≤m) (h2:0≤k∧k≤19) (hq:Int.tdiv (m*k) 19=q):0≤q∧q≤m:=by
 have h3:0≤m*k:=Int.mul_nonneg h1 h2.1;have h4:m*k≤m*19:=Int.mul_le_mul_of_nonneg_left h2.2 h1;rw [Int.tdiv_eq_ediv_of_nonneg h3] at hq;omega
theorem gc_ (lv:Value) (A:List RwV) (t n m:Int) (w:World) (h:RwsR w lv A) (h1:-2147483648≤t) (h2:t≤2147483647) (hn1:0≤n) (hn2:n≤65535) (hm1:0≤m) (hm2:m≤65535) :
  Calls Tryz.prog 5 #[lv,.int .i32 t,.agg #[.int .u16 n,.int .u16 m]] w fun e w'=>e=.returned (.bool true)∧Below w.heap.size w w':=by
 have HS:=hq_ ez_;have HMD:=hq_ (fun W (hb:Below w.heap.size w W)=>fs_ lv A W (h.below hb));have HW:=hq_ (fun W=>hv_ t n W h1 h2 hn1 hn2);have hsz:=q7_ (x:=m) (k:=2000) hm1 oq_;obtain ⟨sz0,hs0⟩:∃ s,Int.tmod m 2000=s:=⟨_,rfl⟩;rw [hs0] at hsz;have HS0:=hq_ hs0;clear h
 go_enter Tryz.func5,Tryz.ntmps5
 go_upto_region 1 with fail
 refine bf_ (F:=fun U=>Bxx U w.heap.size #[.int .u16 n,.int .u16 m] 68∧Below w.heap.size w U) ⟨Bxx.new w _ _,Ea (Er w) _⟩ ?_;rintro u ⟨hb,hu⟩;have HU:=hq_ hu;have x0:=(hb.cells 0).1;have x1:=(hb.cells 1).1;clear hb hu;go_upto_region 4 with (first|(go_at_call 13;(with_reducible refine (HS.out u).mono ?_);rintro e w1 ⟨rfl,hb⟩;have HB1:=hq_ (Et HU.out hb);have x0:=Ext.cell hb x0;have x1:=Ext.cell hb x1;clear hb)|(go_at_call 14;(with_reducible refine (HMD.out w1 HB1.out).mono ?_);rintro e w2 ⟨v0,L,rfl,hM,hD,hb⟩;obtain ⟨a0,c0,rfl⟩:=hD.form;have HM:=hq_ hM;have HD:=hq_ hD;have HB2:=hq_ (Et HB1.out hb);have x0:=Ext.cell hb x0;have x1:=Ext.cell hb x1;clear hM hD hb)|(go_at_call 15;(with_reducible refine (HW.out w2).mono ?_);rintro e w3 ⟨a,l,ha,hl,rfl,hb⟩;obtain ⟨b,hab⟩:∃ b,b=a+l:=⟨_,rfl⟩;rw [<- hab];have HAB:=hq_ (And.intro ha (And.intro hl hab));have HB3:=hq_ hb;have x1:=Ext.cell hb x1;clear ha hl hab hb x0))
 refine bf_ (F:=fun U=>(Bxx U w3.heap.size #[.int .i64 a,.int .i64 b] 28∧DiaL U (fun k=>w1.heap.size≤k) (.slice a0 L.length c0) L∧U.cell? ⟨w.heap.size,1,none⟩=some (.int .u16 m))∧Below w.heap.size w U) ⟨⟨Bxx.new w3 _ _,HD.out.ext (Ea HB3.out _),Ext.cell (Ea (Er w3) _) x1⟩,Et HB2.out (Ea HB3.out _)⟩ ?_;clear x1;rintro w4 ⟨⟨hbx,hd4,x1⟩,hb4⟩;have HWB:Hid (WinB a b):=hq_ (by obtain ⟨⟨g1,g2⟩,⟨g3,g4⟩,g5⟩:=HAB.out;exact ⟨oq_,oq_,oq_,oq_⟩);have hsm:=HM.out.sm;have HBU:=hq_ (fun W (hb:Below w4.heap.size w4 W)=>fk_ _ (.slice a0 L.length c0) L true a b W (hd4.ext hb) hsm HWB.out);have HFR:=hq_ (ia_ _ (.slice a0 L.length c0) L (1+sz0) a b w4 hd4 hsm HWB.out ⟨oq_,oq_⟩);have HB4:=hq_ hb4;have HBX:=hq_ hbx;have z0:=(hbx.cells 0).1;have z1:=(hbx.cells 1).1;clear hbx hd4 hb4 hsm HMD HW HS;go_upto_region 5 with fail
 obtain ⟨sz,hz⟩:∃ s,s=1+sz0:=⟨_,rfl⟩;rw [<- hz] at HFR ⊢;have hsz1:1≤sz∧sz≤2000:=oq_;have HSZ:=hq_ hsz1;clear hz hs0 HS0 x1;go_upto_region 6 with (go_at_call 20;(with_reducible refine HFR.out.mono ?_);rintro e w5 ⟨f,tt,ok,rfl,ht,hk,hb⟩;have HT:=hq_ ht;have HK:=hq_ (hk.resolve_left (fun h=>by have:=HSZ.out;omega)).2;have HB5:=hq_ hb;have z0:=Ext.cell hb z0;have z1:=Ext.cell hb z1;clear ht hk hb)
 refine bf_ (F:=fun U=>(Bxx U w5.heap.size #[.int .i64 f,.int .i64 tt] 28)∧Below w4.heap.size w4 U) ⟨Bxx.new w5 _ _,Ea HB5.out _⟩ ?_;clear z0 z1;rintro w6 ⟨hby,hb6⟩;have HB6:=hq_ hb6;have HBY:=hq_ hby;have z0:=((HBX.out.below hb6).cells 0).1;have z1:=((HBX.out.below hb6).cells 1).1;clear hby hb6;go_upto_region 9 with (go_at_call 16;(with_reducible refine (HBU.out w6 HB6.out).mono ?_);rintro e w7 ⟨v7,N,rfl,hN,hl,hs,hb⟩;obtain ⟨na,nc,rfl⟩:=hs.form;have HN:=hq_ hN;have HNS:=hq_ hs;have HNL:=hq_ (sy_ hN HWB.out);have HB7:=hq_ (Et HB6.out hb);have HW7:=hq_ hb;clear hN hl hs hb z0 z1)
 have hga:=HAB.out.1;have hgl:=HAB.out.2.1;have hba:a≤b∧b≤a+28799:=by have:=HAB.out.2.2;omega
 have hmt:=fun (u v:Int) (W:World) (q:Nat) (hb:Below w7.heap.size w7 W) (hu:-300000≤u∧u≤300000) (hv:-300000≤v∧v≤300000)=>(s6_ _ _ (.slice na N.length nc) (.slice (some ⟨W.heap.size,0,none⟩) 1 1) N [(u,v)] (W.alloc (.cells #[.int .i64 u,.int .i64 v] 28)) (HNS.out.ext (Ea hb _)) (SpnL.lit (l:=[(u,v)]) (Bxx.new W #[.int .i64 u,.int .i64 v] 28) rfl sq_ (List.forall_mem_cons.2 ⟨⟨⟨by dsimp only;omega,by dsimp only;omega⟩,⟨by dsimp only;omega,by dsimp only;omega⟩⟩,sq_⟩)) (by have:=HNL.out;simp;omega)).mono fun e w' h=>tu_ HWB.out ⟨_,HN.out⟩ hu hv h;have HMT:=hq_ hmt;clear hmt hgl;cases ok
 case' true=>
  obtain ⟨hfa,hfb,htt,hfree,hno⟩:a≤f∧f+sz≤b∧tt=f+sz∧(∀ t,f≤t->t<f+sz->¬ SpM N t)∧(∀ g,a≤g->g≤f-1->∃ t,SpM N t∧g≤t∧t<g+sz):=(by
   rcases HK.out with ⟨_,k1,k2,k3,k4⟩|⟨h,_⟩
   ·refine ⟨k1,k2,by simpa using HT.out,fun t t1 t2 ht=>k3 t t1 t2 ((HN.out.2 t).1 ht).2.2,fun g g1 g2=>?_⟩;obtain ⟨t,h1⟩:=Classical.not_forall.1 (k4 g g1 oq_);by_cases ht1:g≤t
    ·by_cases ht2:t<g+sz
     ·by_cases ht3:bq_ (selD true (L.map EntV.ent)) t
      ·exact ⟨t,(HN.out.2 t).2 ⟨oq_,oq_,ht3⟩,ht1,ht2⟩
      ·exact absurd (fun _ _=>ht3) h1
     ·exact absurd (fun _ h=>absurd h ht2) h1
    ·exact absurd (fun h=>absurd h ht1) h1
   ·cases h)
  have HFR2:=hq_ hfree;have HNO:=hq_ hno;have htd:tt-f=sz:=oq_;have y0:=((HBY.out.below HW7.out).cells 0).1;have y1:=((HBY.out.below HW7.out).cells 1).1;have c1:¬ f<a:=oq_;have c2:¬ b<tt:=oq_;have HTT:=hq_ htt;clear hfree hno htt;have hm0:=HMT.out f tt w7 0 (Er _) oq_ oq_;have HM0:=hq_ hm0;have z0:=((HBX.out.below HB7.out).cells 0).1;have z1:=((HBX.out.below HB7.out).cells 1).1;clear hm0;go_wp2_with (go_at_call 30;(with_reducible refine HM0.out.mono ?_);rintro e w8 ⟨rr,R,rfl,hR,hRm,⟨ra,rc,hre⟩,hb⟩;have hR0:R.length=0:=(vv_ hR fun t ht=>by obtain ⟨h1,h2,h3⟩:=(hRm t).1 ht;exact HFR2.out t h2 (by have:=HTT.out;omega) h1);rw [hR0] at hre;subst hre;have HB8:=hq_ (Et (Ea (Er w7) _) hb);have z0:=Ext.cell HB8.out z0;have z1:=Ext.cell HB8.out z1;have y0:=Ext.cell HB8.out y0;have y1:=Ext.cell HB8.out y1;clear hR hRm hb hR0)
  obtain ⟨E,hE⟩:∃ E,E=f-1:=⟨_,rfl⟩;rw [<- hE];have hEb:-300000≤E∧E+sz≤b:=oq_;have HNE:Hid (∀ g,a≤g->g≤E->∃ t,SpM N t∧g≤t∧t<g+sz):=hq_ fun g g1 g2=>HNO.out g g1 oq_;clear hE hfa hfb htd c1 c2 y0 y1 HFR2 HNO HM0
 case' false=>
  obtain ⟨w8,hw8⟩:∃ x,x=w7:=⟨_,rfl⟩;have HB8:Hid (Below w7.heap.size w7 w8):=hq_ (by rw [hw8];exact Er _);rw [<- hw8];have z0:=((HBX.out.below (Et HB7.out HB8.out)).cells 0).1;have z1:=((HBX.out.below (Et HB7.out HB8.out)).cells 1).1;clear hw8;go_wp2_with fail
  obtain ⟨E,hE⟩:∃ E,E=b-sz:=⟨_,rfl⟩;rw [<- hE];have hEb:-300000≤E∧E+sz≤b:=oq_;have HNE:Hid (∀ g,a≤g->g≤E->∃ t,SpM N t∧g≤t∧t<g+sz):=hq_ fun g g1 g2=>by
   rcases HK.out with ⟨h,_⟩|⟨_,_,k4⟩
   ·cases h
   ·obtain ⟨t,h1⟩:=Classical.not_forall.1 (k4 g g1 oq_);by_cases ht1:g≤t
    ·by_cases ht2:t<g+sz
     ·by_cases ht3:bq_ (selD true (L.map EntV.ent)) t
      ·exact ⟨t,(HN.out.2 t).2 ⟨oq_,oq_,ht3⟩,ht1,ht2⟩
      ·exact absurd (fun _ _=>ht3) h1
     ·exact absurd (fun _ h=>absurd h ht2) h1
    ·exact absurd (fun h=>absurd h ht1) h1
  clear hE
 all_goals
  clear z0 z1;go_loopw [18,19,20,21] (fun kv _ _ _ wr=>∃ k:Nat,k≤20∧kv=.int .i64 k∧Hid (Below w7.heap.size w7 wr)) (fun kv _ _ _ _=>20-(intOf kv).toNat)
  case atStart=>exact ⟨0,oq_,rfl,HB8⟩
  case round=>
   obtain ⟨k,hk,rfl,HB⟩:=hrel;have z0:=((HBX.out.below (Et HB7.out HB.out)).cells 0).1;by_cases hlt:k<20
   ·have hlI:(k:Int)<20:=oq_;have HLT:=hq_ (show k+1≤20 by omega);by_cases hae:a≤E
    ·obtain ⟨p,hp⟩:∃ p,(E-a)*(k:Int)=p:=⟨_,rfl⟩;obtain ⟨q,hq⟩:∃ q,Int.tdiv p 19=q:=⟨_,rfl⟩;have hq2:=wq_ (m:=E-a) (k:=k) (q:=q) oq_ oq_ (by rw [hp];exact hq);have hp2:0≤p∧p≤500000*20:=by
      rw [<- hp];exact ⟨Int.mul_nonneg oq_ oq_,Int.mul_le_mul oq_ oq_ oq_ oq_⟩
     have hwp:IntKind.i64.wrap ((E-a)*(k:Int))=p:=by rw [hp];exact v6_ ⟨oq_,oq_⟩
     obtain ⟨q1,q2⟩:=hq2;clear hp hlt;go_upto_region 20 with fail
     obtain ⟨T,hT⟩:∃ T,T=a+q:=⟨_,rfl⟩;rw [<- hT];have hTb:a≤T∧T≤E:=oq_;have HTB:=hq_ hTb;have hm:=HMT.out T (T+sz) wr 0 HB.out oq_ oq_;have HM1:=hq_ hm;have hTu:-300000≤T∧T≤300000:=oq_;clear hm hT hwp hq q1 q2 hp2 hTb
     go_wp2_with (go_at_call 30;((with_reducible refine HM1.out.mono ?_);rintro e w9 ⟨rr,R,rfl,hR,hRm,⟨ra,rc,rfl⟩,hb⟩;have hR0:0<R.length:=(by
       obtain ⟨t,h1,h2,h3⟩:=HNE.out T HTB.out.1 HTB.out.2;exact vw_ ((hRm t).2 ⟨h1,h2,h3⟩));have hRb:((R.length:Int) == 0)=false:=(by simp only [beq_eq_false_iff_ne,ne_eq];omega);have HB9:=hq_ (Et HB.out (Et (Ea (Er wr) _) hb));clear hR hRm hb hR0))
     go_roundw
     case rel=>exact ⟨k+1,HLT.out,by go_num,HB9⟩
     case measure=>have:=HLT.out;simp [intOf];omega
    ·go_wp2_with fail
     go_ret;exact ⟨rfl,Et HB4.out (Et HB7.out HB.out)⟩
   ·obtain rfl:k=20:=oq_;go_wp2_with fail
    go_ret;exact ⟨rfl,Et HB4.out (Et HB7.out HB.out)⟩
end Go.Proofs.YtkclokcenllhmaaGreat
namespace Go.Proofs.YtkclokcenllhmaaGreat
open Go.ChangeShapes Go.WideShapes Go.ChangeAt Go.RowKit Go.Joins Kal
theorem DiaryFreeTimes_lifted (os:Os) (started:os.Started) (H:Type) (enc:TypeId × Value->H) :
  ReturnsInHanded {} Tryz.checked os 5 .any (Rows.diaryFreeTimesSpec.pre6 enc Tryz.prog Tryz.f5 Rows.diaryFreeTimesRow.domain false) (Rows.diaryFreeTimesSpec.post enc Tryz.prog Tryz.f5 false true false false):=by
 refine returnsInHanded_of_change (C:=Tryz.checked) js_ started (by kernel_rfl) Tryz.func5
  (ChangeSpec.witness6 (enc:=enc) (C:=Tryz.checked) false ⟨#[],#[.slice none 0 0,.int .i32 0,.agg #[.int .u16 0,.int .u16 0]],[]⟩ 8 (by kernel_rfl) (by kernel_rfl) (by kernel_rfl) (by kernel_rfl)) ?_
 intro W base args ds gs before hval0 hW hcnd _;have hval:∀ (j:Nat) t v,Tryz.f5.params[j]? = some t->args[j]? = some v->Value.okWide Tryz.prog W .any base t v:=hval0;have hW':=hW;obtain ⟨p,q,hA0,hV,rfl,hfz,hnd⟩:=hW;have hA:DataW.TrodAll enc Tryz.prog W 0 (fun _=>true) true Tryz.f5.params.toList args.toList ds p:=hA0;rw [Tryz.params5] at hA hval;obtain ⟨v0,vs0,d0,ds0,p0,q0,hargs,rfl,rfl,h0,r0⟩:=trodAll_cons hA;obtain ⟨v1,vs1,d1,ds1,p1,q1,rfl,rfl,rfl,h1,r1⟩:=trodAll_cons r0;obtain ⟨v2,vs2,d2,ds2,p2,q2,rfl,rfl,rfl,h2,r2⟩:=trodAll_cons r1;obtain ⟨rfl,rfl,rfl⟩:=trodAll_nil r2;obtain rfl:args=#[v0,v1,v2]:=by cases args;simp_all
 obtain ⟨rfl,rfl⟩:=trodVars_none hV;have k0:=h0;have lt0:∀ x∈p0,x.block<W.heap.size:=by obtain ⟨m,hm⟩:=k0;exact DataW.trod_lt m _ _ _ hm
 obtain ⟨L0,w0⟩:=ex_ (hval 0 22 v0 rfl rfl) h0;obtain ⟨m1,rfl,rfl,rfl,w1⟩:=open_int Tryz.underlying21 (hval 1 21 v1 rfl rfl) h1;have b1:=bounds_i32 w1;have k2:=h2;have lt2:∀ x∈p2,x.block<W.heap.size:=by obtain ⟨m,hm⟩:=k2;exact DataW.trod_lt m _ _ _ hm
 obtain ⟨ns2,hl2,he2,hw2⟩:=u1_ Tryz.underlying68 Tryz.underlying30 (by kernel_rfl) (by kernel_rfl) (hval 2 68 v2 rfl rfl) h2;obtain ⟨a2,b2,rfl⟩:=wy_ hl2;obtain rfl:v2=.agg #[.int .u16 a2,.int .u16 b2]:=he2;have ba2:=bounds_u16 (hw2 a2 sq_);have bb2:=bounds_u16 (hw2 b2 sq_);clear hA0 hval0;refine (gc_ v0 L0 m1 a2 b2 W w0 b1.1 b1.2 ba2.1 ba2.2 bb2.1 bb2.2).mono fun e W' ⟨he,bel⟩=>?_;subst he;exact ⟨_,rfl,_,_,_,[],_,[],hW',trodAll_mk1 (shut_bool Tryz.underlying4 _),(trodAll_cons_mk (Below.trod eg_ (by kernel_rfl) (of_decide_eq_true (by kernel_rfl)) k0 bel lt0) (trodAll_cons_mk (shut_int Tryz.underlying21 w1) (trodAll_cons_mk (Below.trod eg_ (by kernel_rfl) (of_decide_eq_true (by kernel_rfl)) k2 bel lt2) trodAll_mk0))),rfl,bel.frame _,fun h=>by cases h⟩
theorem jn2 {a b:Bool} (h:a=true) (g:b=true):(a && b)=true:=by rw [h,g];rfl
theorem DiaryFreeTimes_said:Rows.DiaryFreeTimesSaid:=
 OpenClaim.holds_of_wide 5 Tryz.f5 rfl rfl rfl rfl rfl rfl rfl ⟨rfl,rfl,rfl,rfl,rfl⟩ rfl rfl rfl rfl rfl (by as_aux_lemma=>kernel_rfl) Tryz.func5 (jn2 (jn2 (jn2 (jn2 (jn2 (jn2 (jn2 (jn2 (jn2 (jn2 (jn2 (jn2 (jn2 (jn2 (jn2 (jn2 (jn2 (jn2 (jn2 (jn2 (jn2 (jn2 (jn2 (jn2 (jn2 (jn2 (jn2 (jn2 (jn2 (jn2 (jn2 (by as_aux_lemma=>kernel_rfl) (by as_aux_lemma=>kernel_rfl)) (by as_aux_lemma=>kernel_rfl)) (by as_aux_lemma=>kernel_rfl)) (by as_aux_lemma=>kernel_rfl)) (by as_aux_lemma=>kernel_rfl)) (by as_aux_lemma=>kernel_rfl)) (by as_aux_lemma=>kernel_rfl)) (by as_aux_lemma=>kernel_rfl)) (by as_aux_lemma=>kernel_rfl)) (by as_aux_lemma=>kernel_rfl)) (by as_aux_lemma=>kernel_rfl)) (by as_aux_lemma=>kernel_rfl)) (by as_aux_lemma=>kernel_rfl)) (by as_aux_lemma=>kernel_rfl)) (by as_aux_lemma=>kernel_rfl)) (by as_aux_lemma=>kernel_rfl)) (by as_aux_lemma=>kernel_rfl)) (by as_aux_lemma=>kernel_rfl)) (by as_aux_lemma=>kernel_rfl)) (by as_aux_lemma=>kernel_rfl)) (by as_aux_lemma=>kernel_rfl)) (by as_aux_lemma=>kernel_rfl)) (by as_aux_lemma=>kernel_rfl)) (by as_aux_lemma=>kernel_rfl)) (by as_aux_lemma=>kernel_rfl)) (by as_aux_lemma=>kernel_rfl)) (by as_aux_lemma=>kernel_rfl)) (by as_aux_lemma=>kernel_rfl)) (by as_aux_lemma=>kernel_rfl)) (by as_aux_lemma=>kernel_rfl)) (by as_aux_lemma=>kernel_rfl))
  (of_decide_eq_true (by as_aux_lemma=>kernel_rfl)) (by unfold Func.isWrapper;first|(rw [if_pos (by decide +kernel)];kernel_rfl)|(rw [if_neg (by decide +kernel)];exact ⟨rfl,rfl⟩))
  (fun os started H enc _=>DiaryFreeTimes_lifted os started H enc)
#print axioms DiaryFreeTimes_said
end Go.Proofs.YtkclokcenllhmaaGreat
end
