/- Part 8 of the proof of the laws. -/
import Derived.Test.YtkclokcenllhmaaGreatL6
import Derived.Test.YtkclokcenllhmaaGreatL7
import Derived.Test.YtkclokcenllhmaaGreatL1
import Derived.Test.YtkclokcenllhmaaGreatL4
import Derived.Test.YtkclokcenllhmaaGreatL5
import Derived.Deep.QuietTactic
import Derived.BigQuiet
import Derived.Test.YtkclokcenllhmaaGreatL2
import Derived.Test.YtkclokcenllhmaaGreatL3
import Derived.Deep.Cut
import Derived.Deep.CutBlock
import Derived.Deep.DeepCutAuto
set_option linter.unusedVariables false
set_option linter.unusedSimpArgs false
set_option maxRecDepth 100000
set_option maxHeartbeats 4000000
section
variable {x:Int}{xs:List Go.Value}{B c i k n:Nat}{e:Go.TypeId}{v:Go.Value}{A C W W' w:Go.World}
namespace Go.Proofs.YtkclokcenllhmaaGreat
open Go.RowKit Go.Maps Kal
def OneK:Prop:=∀ A B:Str,MStr A->MStr B->A.cls=[]->e2_ A B∧f1_ A B
theorem o5_ {L:List EntV} (hone:OneK) (hs:SmD (L.map EntV.ent)) (hn:∀ e∈L.map EntV.ent,e.s.cls=[]):∀ x∈L,∀ y∈L,e2_ x.s y.s∧f1_ x.s y.s:=fun x hx y hy=>
 hone _ _ (hs.good x.ent (List.mem_map.2 ⟨x,hx,rfl⟩)).2.ms (hs.good y.ent (List.mem_map.2 ⟨y,hy,rfl⟩)).2.ms (hn x.ent (List.mem_map.2 ⟨x,hx,rfl⟩))
theorem hj_ {L:List EntV} {s:Str} (hone:OneK) (hs:SmD (L.map EntV.ent)) (hm:MStr s) (hn:s.cls=[]):∀ y∈L,e2_ s y.s:=fun y hy=>
 (hone _ _ hm (hs.good y.ent (List.mem_map.2 ⟨y,hy,rfl⟩)).2.ms hn).1
theorem wl_ {F:Nat->Prop} {v1 v2:Value} {x y z:ai_} (h:RowR W F v1 3 ([x,y,z].flatMap menc)) (g:RowR W F v2 3 ([x,y,z].flatMap denc)) (hx:InI x.id) (hy:InI y.id) (hz:InI z.id) :
  (∃ b f c,v1=.slice (some ⟨b,f,none⟩) 3 c∧b<W.heap.size∧W.cell? ⟨b,f+5,none⟩=some (.int .i64 y.kind)∧W.cell? ⟨b,f+8,none⟩=some (.int .i64 z.kind))∧(∃ a c,v2=.slice a 3 c)∧Ints W v2 [x.id,y.id,z.id]:=by
 refine ⟨?_,?_,?_⟩
 ·obtain ⟨a,c,rfl,h1,h2,h3⟩:=h.is;rcases h3 with h3|⟨b,o,rfl,hF,hl,hc⟩
  ·cases h3
  ·exact ⟨b,o,c,rfl,hl,hc 5 _ rfl,hc 8 _ rfl⟩
 ·obtain ⟨a,c,rfl,_⟩:=g.is;exact ⟨a,c,rfl⟩
 ·obtain ⟨a,c,rfl,h1,h2,h3⟩:=g.is;refine ⟨⟨a,c,rfl,h1,h2,?_⟩,sq_,fun u hu=>by simp at hu;rcases hu with rfl|rfl|rfl;exact hx;exact hy;exact hz⟩;rcases h3 with h3|⟨b,o,rfl,hF,hl,hc⟩
  ·cases h3
  ·refine .inr ⟨b,o,rfl,fun i hi=>?_⟩
   match i,hi with
   | 0,_=>exact hc 0 _ rfl
   | 1,_=>exact hc 1 _ rfl
   | 2,_=>exact hc 2 _ rfl
def ck_ (P:World->Prop) (w:World):Prop:=∀ W,Below w.heap.size w W->P W
theorem ck_.ext {P:World->Prop} (h:ck_ P w) (hb:Below w.heap.size w W):ck_ P W:=fun U hU=>h U (Et hb hU)
theorem ck_.on {P:World->Prop} (h:ck_ P w) (hb:Below w.heap.size w W):P W:=h W hb
theorem ck_.and {P Q:World->Prop} (h:ck_ P w) (g:ck_ Q w):ck_ (fun W=>P W∧Q W) w:=fun U hU=>⟨h U hU,g U hU⟩
theorem ud_ (hone:OneK) (w:World):Calls Tryz.prog 13 #[] w fun e w'=>e=.returned (.bool true)∧Below w.heap.size w w':=by
 have hI:∀ x:Int,0≤x∧x≤1000->InI x:=fun x h=>⟨oq_,oq_⟩;have HEX:=hq_ (mx_ w);have HONE:=hq_ hone;clear hone
 go_enter Tryz.func13,Tryz.ntmps13
 go_upto_region 2 with (go_at_call 47;(with_reducible refine HEX.out.mono ?_);rintro e w1 ⟨v0,L0,rfl,hL,hD,hb⟩;obtain ⟨a0,c0,rfl⟩:=hD.form;have HL:=hq_ hL;have HD1:=hq_ hD;have HB1:=hq_ hb;clear hL hD hb)
 have hsd0:SmD (L0.map EntV.ent):=by rw [HL.out];exact ug_
 have hl0:L0.length=3:=by have:=congrArg List.length HL.out;rw [List.length_map] at this;exact this
 have hll0:L0.length≤40:=oq_;have hll9:L0.length≤900:=oq_;have HLL0:=hq_ (And.intro hll0 hll9);clear hl0 hll0 hll9;go_upto_region 3 with fail
 refine bf_ (F:=fun U=>ck_ (fun W=>Bxx W w1.heap.size #[.int .i64 0,.int .i64 200] 28∧DiaL W (fun k=>w.heap.size≤k) (.slice a0 L0.length c0) L0) U∧Below w.heap.size w U) ⟨fun W' h=>⟨(Bxx.new w1 _ _).below h,HD1.out.ext (Et (Ea (Er w1) _) h)⟩,Ea HB1.out _⟩ ?_;rintro w2 ⟨HS2,hb⟩;have HB2:=hq_ hb;clear hb;have HS0:=HS2;clear HS2;have hcl:=hs_ _ _ L0 w2 (HS0.on (Er _)).2 hsd0 HLL0.out.2 (o5_ HONE.out hsd0 (by rw [HL.out];simp [dia0,ent3,ent4,ent7,oneS]));rw [HL.out] at hcl;have HCL:=hq_ hcl;clear hcl;have HSD0:=hq_ hsd0;clear hsd0;have HWB:Hid (WinB 0 200):=hq_ ⟨oq_,oq_,oq_,oq_⟩;go_upto_region 4 with (go_at_call 27;(with_reducible refine HCL.out.mono ?_);rintro e w3 ⟨v3,R3,k3,rfl,hC,hO,hb⟩;obtain ⟨rfl,rfl⟩:=py_ hC;obtain ⟨a3,c3,e3,-⟩:=hO.form;rw [List.length_nil] at e3;subst e3;have HB3:=hq_ hb;clear hC hO hb)
 clear HCL;go_upto_region 5 with (go_at_call 48;(with_reducible refine (ci_ 7 0 30 100 _ (hI _ oq_) (hI _ oq_) (hI _ oq_) (hI _ oq_)).mono ?_);rintro e w4 ⟨y,rfl,hye,hyr,hb⟩;obtain ⟨x1,n1,x2,g1,hc,hv⟩:=hyr.1.form;obtain ⟨Y,hY⟩:∃ Y,Y=y:=⟨_,rfl⟩;rw [<- hY] at hye hyr;obtain ⟨i1,f1,r1,cv,ev,s1⟩:=y;dsimp only at hc hv;subst hc;subst hv;dsimp only [EntV.val];have HY:=hq_ hY;have HYE:=hq_ hye;have HYR:=hq_ hyr;have HW4:=hq_ hb;clear hye hyr hb hY)
 refine bf_ (F:=fun U=>(Bxx U w4.heap.size #[.int .i64 i1,.bool f1,.int .i64 r1,.slice x1 s1.cls.length n1,.int .i64 s1.len,.slice x2 s1.ext.length g1] 57∧REnt U (fun k=>w3.heap.size≤k) Y)∧Below w4.heap.size w4 U) ⟨⟨Bxx.new w4 _ _,a4_.mono (HYR.out.ext (Ea (Er _) _)) fun k hk=>hk.1⟩,Ea (Er _) _⟩ ?_;rintro z4 ⟨⟨hbx,hyr⟩,hb⟩;have HB4:=hq_ (Et HB3.out (Et HW4.out hb));have hval:Y.val=.agg #[.int .i64 i1,.bool f1,.int .i64 r1,.slice x1 s1.cls.length n1,.int .i64 s1.len,.slice x2 s1.ext.length g1]:=by rw [HY.out]
 have hpu:=i5_ _ _ (.slice a0 L0.length c0) L0 Y z4 (HS0.on HB4.out).2 HSD0.out hyr (by rw [HYE.out];exact (ch_ oq_ oq_ oq_).1);rw [HL.out,HYE.out,hval] at hpu;have HPU:=hq_ hpu;have y0:=(hbx.cells 0).1;have y1:=(hbx.cells 1).1;have y2:=(hbx.cells 2).1;have y3:=(hbx.cells 3).1;have y4:=(hbx.cells 4).1;have y5:=(hbx.cells 5).1;clear hbx hyr hb hval hpu;go_upto_region 6 with (go_at_call 26;(with_reducible refine HPU.out.mono ?_);rintro e w5 ⟨v5,rfl,hb,M,hM,hO⟩;replace hM:=hM.trans w6_;have hD:=hO.diaL;obtain ⟨a5,c5,rfl⟩:=hD.form;have HM:=hq_ hM;have HDM:=hq_ hD;have HB5:=hq_ (Et HB4.out hb);clear hM hO hD hb)
 clear HPU y0 y1 y2 y3 y4 y5;have hml:M.length≤900:=by have:=congrArg List.length HM.out;rw [List.length_map] at this;simp at this;omega
 have hcl:=hs_ _ _ M w5 HDM.out (by rw [HM.out];exact mf_) hml (o5_ HONE.out (by rw [HM.out];exact mf_) (by rw [HM.out];simp [ent3,ent4,ent7,oneS]));rw [HM.out] at hcl;have HCL:=hq_ hcl;clear hcl hml;go_upto_region 7 with (go_at_call 27;(with_reducible refine HCL.out.mono ?_);rintro e w6 ⟨v6,R6,k6,rfl,hC,hO,hb⟩;obtain ⟨rfl,p,q,rfl,p1,p2,q1,q2⟩:=pz_ hC;obtain ⟨g6,f6,c6,rfl,hg6,d0,d1,d2,d3⟩:=wp_ hO.rowR;rw [p1] at d0;rw [p2] at d1;rw [q1] at d2;rw [q2] at d3;have HQ6:ck_ (fun W=>W.cell? ⟨g6,f6,none⟩=some (.int .i64 3)∧W.cell? ⟨g6,f6+1,none⟩=some (.int .i64 7)∧W.cell? ⟨g6,f6+8,none⟩=some (.int .i64 4)∧W.cell? ⟨g6,f6+9,none⟩=some (.int .i64 7)) w6:=(fun W h=>⟨Ext.cell h d0,Ext.cell h d1,Ext.cell h d2,Ext.cell h d3⟩);have HB6:=hq_ (Et HB5.out hb);clear hC hO hb p1 p2 q1 q2 d0 d1 d2 d3 hg6)
 clear HCL
 skip
 go_upto_region 8 with (first|(go_at_call 48;(with_reducible refine (ci_ 8 5 100 130 _ (hI _ oq_) (hI _ oq_) (hI _ oq_) (hI _ oq_)).mono ?_);rintro e u7 ⟨y,rfl,hye,hyr,hb⟩;have hg:=ch_ (id:=8) (rk:=5) (f:=100) (t:=130) (fm:=true) oq_ oq_ oq_;have hs:y.s=oneS 100 130:=congrArg Ent.s hye;have had:=eq_ _ _ (.slice a0 L0.length c0) L0 y u7 (HS0.on (Et HB6.out hb)).2 HSD0.out hyr (by rw [hye];exact hg.1) (hj_ HONE.out HSD0.out (by rw [hs];exact hg.2.ms) (by rw [hs];rfl));rw [HL.out,hye] at had;obtain ⟨x1,n1,x2,g1,hc,hv⟩:=hyr.1.form;obtain ⟨i1,f1,r1,cv,ev,s1⟩:=y;dsimp only at hc hv;subst hc;subst hv;dsimp only [EntV.val] at had ⊢;have HAD:=hq_ had;have HBU:=hq_ hb;clear had hye hyr hb hs hg)|(go_at_call 28;(with_reducible refine HAD.out.mono ?_);rintro e w7 ⟨v7,rfl,hO,hb⟩;rw [ik_.1];have HO7:=hq_ hO;have HW7:=hq_ (Et HBU.out hb);have HB7:=hq_ (Et HB6.out HW7.out);clear hO hb))
 clear  HAD HBU;obtain ⟨a7,c7,e7⟩:∃ a c,v7=.slice a 1 c:=by
  have h:=HO7.out.form;rw [ik_.2] at h;obtain ⟨a,c,e,-⟩:=h;exact ⟨a,c,e⟩
 subst e7;have hin:=HO7.out.ints1;rw [ik_.2] at hin;have HQ7:=(HQ6.ext HW7.out).and (Q:=fun W=>Ints W (.slice a7 1 c7) [4]) fun W h=>hin.ext h;clear hin HQ6 HO7
 skip
 go_upto_region 9 with (first|(go_at_call 48;(with_reducible refine (ci_ 8 1 100 130 _ (hI _ oq_) (hI _ oq_) (hI _ oq_) (hI _ oq_)).mono ?_);rintro e u8 ⟨y,rfl,hye,hyr,hb⟩;have hg:=ch_ (id:=8) (rk:=1) (f:=100) (t:=130) (fm:=true) oq_ oq_ oq_;have hs:y.s=oneS 100 130:=congrArg Ent.s hye;have had:=eq_ _ _ (.slice a0 L0.length c0) L0 y u8 (HS0.on (Et HB7.out hb)).2 HSD0.out hyr (by rw [hye];exact hg.1) (hj_ HONE.out HSD0.out (by rw [hs];exact hg.2.ms) (by rw [hs];rfl));rw [HL.out,hye] at had;obtain ⟨x1,n1,x2,g1,hc,hv⟩:=hyr.1.form;obtain ⟨i1,f1,r1,cv,ev,s1⟩:=y;dsimp only at hc hv;subst hc;subst hv;dsimp only [EntV.val] at had ⊢;have HAD:=hq_ had;have HBU:=hq_ hb;clear had hye hyr hb hs hg)|(go_at_call 28;(with_reducible refine HAD.out.mono ?_);rintro e w8 ⟨v8,rfl,hO,hb⟩;rw [ue_];have HO8:=hq_ hO;have HW8:=hq_ (Et HBU.out hb);have HB8:=hq_ (Et HB7.out HW8.out);clear hO hb))
 clear  HAD HBU;have HQ8:=HQ7.ext HW8.out;clear HQ7 HO8;obtain ⟨xw0,xw1⟩:=And.intro (((HS0.on HB8.out).1).cells 0).1 (((HS0.on HB8.out).1).cells 1).1;go_upto_region 10 with (first|(go_at_call 48;(with_reducible refine (ci_ 8 9 0 200 _ (hI _ oq_) (hI _ oq_) (hI _ oq_) (hI _ oq_)).mono ?_);rintro e u9 ⟨y,rfl,hye,hyr,hb⟩;have hg:=ch_ (id:=8) (rk:=9) (f:=0) (t:=200) (fm:=true) oq_ oq_ oq_;have hs:y.s=oneS 0 200:=congrArg Ent.s hye;have had:=eq_ _ _ (.slice a0 L0.length c0) L0 y u9 (HS0.on (Et HB8.out hb)).2 HSD0.out hyr (by rw [hye];exact hg.1) (hj_ HONE.out HSD0.out (by rw [hs];exact hg.2.ms) (by rw [hs];rfl));rw [HL.out,hye] at had;obtain ⟨x1,n1,x2,g1,hc,hv⟩:=hyr.1.form;obtain ⟨i1,f1,r1,cv,ev,s1⟩:=y;dsimp only at hc hv;subst hc;subst hv;dsimp only [EntV.val] at had ⊢;have HAD:=hq_ had;have HBU:=hq_ hb;clear had hye hyr hb hs hg)|(go_at_call 28;(with_reducible refine HAD.out.mono ?_);rintro e w9 ⟨v9,rfl,hO,hb⟩;rw [il_.1];have HO9:=hq_ hO;have HW9:=hq_ (Et HBU.out hb);have HB9:=hq_ (Et HB8.out HW9.out);clear hO hb))
 clear xw0 xw1 HAD HBU;obtain ⟨a9,c9,e9⟩:∃ a c,v9=.slice a 2 c:=by
  have h:=HO9.out.form;rw [il_.2] at h;obtain ⟨a,c,e,-⟩:=h;exact ⟨a,c,e⟩
 subst e9;have hin:=HO9.out.ints1;rw [il_.2] at hin;have HQ9:=(HQ8.ext HW9.out).and (Q:=fun W=>Ints W (.slice a9 2 c9) [3,4]) fun W h=>hin.ext h;clear hin HQ8 HO9;obtain ⟨xw0,xw1⟩:=And.intro (((HS0.on HB9.out).1).cells 0).1 (((HS0.on HB9.out).1).cells 1).1;go_upto_region 11 with (first|(go_at_call 48;(with_reducible refine (ci_ 3 9 0 200 _ (hI _ oq_) (hI _ oq_) (hI _ oq_) (hI _ oq_)).mono ?_);rintro e u10 ⟨y,rfl,hye,hyr,hb⟩;have hg:=ch_ (id:=3) (rk:=9) (f:=0) (t:=200) (fm:=true) oq_ oq_ oq_;have hs:y.s=oneS 0 200:=congrArg Ent.s hye;have had:=eq_ _ _ (.slice a0 L0.length c0) L0 y u10 (HS0.on (Et HB9.out hb)).2 HSD0.out hyr (by rw [hye];exact hg.1) (hj_ HONE.out HSD0.out (by rw [hs];exact hg.2.ms) (by rw [hs];rfl));rw [HL.out,hye] at had;obtain ⟨x1,n1,x2,g1,hc,hv⟩:=hyr.1.form;obtain ⟨i1,f1,r1,cv,ev,s1⟩:=y;dsimp only at hc hv;subst hc;subst hv;dsimp only [EntV.val] at had ⊢;have HAD:=hq_ had;have HBU:=hq_ hb;clear had hye hyr hb hs hg)|(go_at_call 28;(with_reducible refine HAD.out.mono ?_);rintro e w10 ⟨v10,rfl,hO,hb⟩;rw [im_.1];have HO10:=hq_ hO;have HW10:=hq_ (Et HBU.out hb);have HB10:=hq_ (Et HB9.out HW10.out);clear hO hb))
 clear xw0 xw1 HAD HBU;obtain ⟨a10,c10,e10⟩:∃ a c,v10=.slice a 1 c:=by
  have h:=HO10.out.form;rw [im_.2] at h;obtain ⟨a,c,e,-⟩:=h;exact ⟨a,c,e⟩
 subst e10;have hin:=HO10.out.ints1;rw [im_.2] at hin;have HQ10:=(HQ9.ext HW10.out).and (Q:=fun W=>Ints W (.slice a10 1 c10) [4]) fun W h=>hin.ext h;clear hin HQ9 HO10;have x0:=(((HS0.on HB10.out).1).cells 0).1;have x1:=(((HS0.on HB10.out).1).cells 1).1;go_upto_region 12 with (go_at_call 16;((with_reducible refine (fk_ _ (.slice a0 L0.length c0) L0 false 0 200 w10 (HS0.on HB10.out).2 HSD0.out HWB.out).mono ?_);rintro e w11 ⟨v11,N,rfl,hN,-,hs,hb⟩;rw [HL.out] at hN;obtain rfl:=rz_ hN;obtain ⟨a11,c11,e11⟩:=hs.form;change v11=Value.slice a11 1 c11 at e11;subst e11;have HQ11:=(HQ10.ext hb).and (Q:=fun W=>SpnL W (fun k=>w10.heap.size≤k) (.slice a11 1 c11) [(0,120)]) (fun W h=>hs.ext h);have HB11:=hq_ (Et HB10.out hb);clear hN hs hb))
 clear x0 x1 HQ10;have x0:=(((HS0.on HB11.out).1).cells 0).1;have x1:=(((HS0.on HB11.out).1).cells 1).1;go_upto_region 13 with (go_at_call 16;((with_reducible refine (fk_ _ (.slice a0 L0.length c0) L0 true 0 200 w11 (HS0.on HB11.out).2 HSD0.out HWB.out).mono ?_);rintro e w12 ⟨v12,N,rfl,hN,-,hs,hb⟩;rw [HL.out] at hN;obtain rfl:=s0_ hN;obtain ⟨a12,c12,e12⟩:=hs.form;change v12=Value.slice a12 2 c12 at e12;subst e12;have HQ12:=(HQ11.ext hb).and (Q:=fun W=>SpnL W (fun k=>w11.heap.size≤k) (.slice a12 2 c12) [(0,60),(90,120)]) (fun W h=>hs.ext h);have HB12:=hq_ (Et HB11.out hb);clear hN hs hb))
 clear x0 x1 HQ11;have x0:=(((HS0.on HB12.out).1).cells 0).1;have x1:=(((HS0.on HB12.out).1).cells 1).1;go_upto_region 14 with (go_at_call 20;((with_reducible refine (ia_ _ (.slice a0 L0.length c0) L0 30 0 200 w12 (HS0.on HB12.out).2 HSD0.out HWB.out (hI _ oq_)).mono ?_);rintro e w13 ⟨f,t,ok,rfl,ht,hk,hb⟩;rw [HL.out] at hk;obtain ⟨rfl,rfl⟩:=s1_ (hk.resolve_left (fun h=>absurd h.1 oq_)).2;obtain rfl:t=90:=ht;have HW13:=hq_ hb;clear hk hb))
 clear x0 x1;refine bf_ (F:=fun U=>ck_ (fun W=>Bxx W w13.heap.size #[.int .i64 60,.int .i64 90] 28) U∧Below w13.heap.size w13 U) ⟨fun W h=>(Bxx.new w13 _ _).below h,Ea (Er _) _⟩ ?_;rintro z13 ⟨hbx,hb⟩;have HQ13:=((HQ12.ext HW13.out).ext hb).and hbx;have HB13:=hq_ (Et HB12.out (Et HW13.out hb));clear hbx hb HQ12 HW13;have x0:=(((HS0.on HB13.out).1).cells 0).1;have x1:=(((HS0.on HB13.out).1).cells 1).1;go_upto_region 15 with (go_at_call 20;((with_reducible refine (ia_ _ (.slice a0 L0.length c0) L0 31 0 200 z13 (HS0.on HB13.out).2 HSD0.out HWB.out (hI _ oq_)).mono ?_);rintro e w14 ⟨f,t,ok,rfl,ht,hk,hb⟩;rw [HL.out] at hk;obtain ⟨rfl,rfl⟩:=s2_ (hk.resolve_left (fun h=>absurd h.1 oq_)).2;obtain rfl:t=151:=ht;have HW14:=hq_ hb;clear hk hb))
 clear x0 x1;refine bf_ (F:=fun U=>ck_ (fun W=>Bxx W w14.heap.size #[.int .i64 120,.int .i64 151] 28) U∧Below w14.heap.size w14 U) ⟨fun W h=>(Bxx.new w14 _ _).below h,Ea (Er _) _⟩ ?_;rintro z14 ⟨hbx,hb⟩;have HQ14:=((HQ13.ext HW14.out).ext hb).and hbx;have HB14:=hq_ (Et HB13.out (Et HW14.out hb));clear hbx hb HQ13 HW14;go_upto_region 16 with (go_at_call 18;((with_reducible refine (ol_ _ (.slice a0 L0.length c0) L0 50 95 z14 (HS0.on HB14.out).2 HSD0.out HLL0.out.1 ⟨oq_,oq_,oq_,oq_⟩).mono ?_);rintro e w15 ⟨v1,v2,R,rfl,hp,hsd,hl,hr1,hr2,-,hb⟩;rw [HL.out] at hp;unfold linW at hp;rw [if_pos oq_] at hp;obtain rfl:=px_ ⟨hp,hsd⟩;obtain ⟨⟨g15,f15,c15,rfl,hg,k1,k2⟩,⟨a16,c16,rfl⟩,hin⟩:=wl_ hr1 hr2 (hI 3 oq_) (hI 7 oq_) (hI 4 oq_);have HQ15:=(HQ14.ext hb).and (Q:=fun W=>W.cell? ⟨g15,f15+5,none⟩=some (.int .i64 1)∧W.cell? ⟨g15,f15+8,none⟩=some (.int .i64 2)∧Ints W (.slice a16 3 c16) [3,7,4]) (fun W h=>⟨Ext.cell h k1,Ext.cell h k2,hin.ext h⟩);have HB15:=hq_ (Et HB14.out hb);clear hp hsd hl hr1 hr2 hb hin k1 k2))
 clear HQ14;obtain ⟨⟨⟨⟨⟨⟨⟨⟨⟨p0,p1,p2,p3⟩,i7⟩,i9⟩,i10⟩,s11⟩,s12⟩,b13⟩,b14⟩,⟨k1,k2,i16⟩⟩:=HQ15.on (Er _);have HSM7:Hid (∀ U,Below w15.heap.size w15 U->Calls Tryz.prog 24 #[.slice a7 1 c7,.slice (some ⟨U.heap.size,0,none⟩) 1 1] (U.alloc (.cells #[.int .i64 4] 3)) fun e w'=>e=.returned (.bool true)∧Below (U.alloc (.cells #[.int .i64 4] 3)).heap.size (U.alloc (.cells #[.int .i64 4] 3)) w'):=
  hq_ (fun U hU=>(dr_ _ _ ([4]:List Int) [4] _ (i7.ext (Ea hU _)) (Ints.lit (l:=[4]) (Bxx.new U #[.int .i64 4] 3) sq_ (by intro x hx;simp at hx;unfold InI;omega))).mono fun e w' h=>⟨h.1,h.2⟩)
 have HSM9:Hid (∀ U,Below w15.heap.size w15 U->Calls Tryz.prog 24 #[.slice a9 2 c9,.slice (some ⟨U.heap.size,0,none⟩) 2 2] (U.alloc (.cells #[.int .i64 3,.int .i64 4] 3)) fun e w'=>e=.returned (.bool true)∧Below (U.alloc (.cells #[.int .i64 3,.int .i64 4] 3)).heap.size (U.alloc (.cells #[.int .i64 3,.int .i64 4] 3)) w'):=
  hq_ (fun U hU=>(dr_ _ _ ([3,4]:List Int) [3,4] _ (i9.ext (Ea hU _)) (Ints.lit (l:=[3,4]) (Bxx.new U #[.int .i64 3,.int .i64 4] 3) sq_ (by intro x hx;simp at hx;unfold InI;omega))).mono fun e w' h=>⟨h.1,h.2⟩)
 have HSM10:Hid (∀ U,Below w15.heap.size w15 U->Calls Tryz.prog 24 #[.slice a10 1 c10,.slice (some ⟨U.heap.size,0,none⟩) 1 1] (U.alloc (.cells #[.int .i64 4] 3)) fun e w'=>e=.returned (.bool true)∧Below (U.alloc (.cells #[.int .i64 4] 3)).heap.size (U.alloc (.cells #[.int .i64 4] 3)) w'):=
  hq_ (fun U hU=>(dr_ _ _ ([4]:List Int) [4] _ (i10.ext (Ea hU _)) (Ints.lit (l:=[4]) (Bxx.new U #[.int .i64 4] 3) sq_ (by intro x hx;simp at hx;unfold InI;omega))).mono fun e w' h=>⟨h.1,h.2⟩)
 have HSM16:Hid (∀ U,Below w15.heap.size w15 U->Calls Tryz.prog 24 #[.slice a16 3 c16,.slice (some ⟨U.heap.size,0,none⟩) 3 3] (U.alloc (.cells #[.int .i64 3,.int .i64 7,.int .i64 4] 3)) fun e w'=>e=.returned (.bool true)∧Below (U.alloc (.cells #[.int .i64 3,.int .i64 7,.int .i64 4] 3)).heap.size (U.alloc (.cells #[.int .i64 3,.int .i64 7,.int .i64 4] 3)) w'):=
  hq_ (fun U hU=>(dr_ _ _ ([3,7,4]:List Int) [3,7,4] _ (i16.ext (Ea hU _)) (Ints.lit (l:=[3,7,4]) (Bxx.new U #[.int .i64 3,.int .i64 7,.int .i64 4] 3) sq_ (by intro x hx;simp at hx;unfold InI;omega))).mono fun e w' h=>⟨h.1,h.2⟩)
 have HSP11:Hid (∀ U,Below w15.heap.size w15 U->Calls Tryz.prog 22 #[.slice a11 1 c11,.slice (some ⟨U.heap.size,0,none⟩) 1 1] (U.alloc (.cells #[.int .i64 0,.int .i64 120] 28)) fun e w'=>e=.returned (.bool true)∧Below (U.alloc (.cells #[.int .i64 0,.int .i64 120] 28)).heap.size (U.alloc (.cells #[.int .i64 0,.int .i64 120] 28)) w'):=
  hq_ (fun U hU=>(hy_ _ _ _ _ ([(0,120)]:List Spn) [(0,120)] _ (s11.ext (Ea hU _)) (SpnL.lit (l:=[(0,120)]) (Bxx.new U #[.int .i64 0,.int .i64 120] 28) rfl sq_ (List.forall_mem_cons.2 ⟨id_ oq_,sq_⟩))).mono fun e w' h=>⟨by rw [h.1];simp,h.2⟩)
 have HSP12:Hid (∀ U,Below w15.heap.size w15 U->Calls Tryz.prog 22 #[.slice a12 2 c12,.slice (some ⟨U.heap.size,0,none⟩) 2 2] (U.alloc (.cells #[.int .i64 0,.int .i64 60,.int .i64 90,.int .i64 120] 28)) fun e w'=>e=.returned (.bool true)∧Below (U.alloc (.cells #[.int .i64 0,.int .i64 60,.int .i64 90,.int .i64 120] 28)).heap.size (U.alloc (.cells #[.int .i64 0,.int .i64 60,.int .i64 90,.int .i64 120] 28)) w'):=
  hq_ (fun U hU=>(hy_ _ _ _ _ ([(0,60),(90,120)]:List Spn) [(0,60),(90,120)] _ (s12.ext (Ea hU _)) (SpnL.lit (l:=[(0,60),(90,120)]) (Bxx.new U #[.int .i64 0,.int .i64 60,.int .i64 90,.int .i64 120] 28) rfl sq_ (List.forall_mem_cons.2 ⟨id_ oq_,List.forall_mem_cons.2 ⟨id_ oq_,sq_⟩⟩))).mono fun e w' h=>⟨by rw [h.1];simp,h.2⟩)
 have H13:=hq_ b13;have H14:=hq_ b14;have HK:=hq_ (And.intro k1 k2);clear HQ15 i7 i9 i10 s11 s12 b13 b14 i16 k1 k2;go_wp2_with (first|(go_at_call 24;((with_reducible refine (HSM7.out w15 (Er _)).mono ?_);rintro e u1 ⟨rfl,hb⟩;have HU1:=hq_ (Et (Ea (Er w15) _) hb);clear hb))|(go_at_call 24;((with_reducible refine (HSM9.out u1 HU1.out).mono ?_);rintro e u2 ⟨rfl,hb⟩;have HU2:=hq_ (Et (Ea HU1.out _) hb);clear hb))|(go_at_call 24;((with_reducible refine (HSM10.out u2 HU2.out).mono ?_);rintro e u3 ⟨rfl,hb⟩;have HU3:=hq_ (Et (Ea HU2.out _) hb);clear hb))|(go_at_call 22;((with_reducible refine (HSP11.out u3 HU3.out).mono ?_);rintro e u4 ⟨rfl,hb⟩;have HU4:=hq_ (Et (Ea HU3.out _) hb);clear hb))|(go_at_call 22;((with_reducible refine (HSP12.out u4 HU4.out).mono ?_);rintro e u5 ⟨rfl,hb⟩;have HU5:=hq_ (Et (Ea HU4.out _) hb);have r0:=((H13.out.below HU5.out).cells 0).1;have r1:=((H13.out.below HU5.out).cells 1).1;have r2:=((H14.out.below HU5.out).cells 0).1;have r3:=((H14.out.below HU5.out).cells 1).1;clear hb))|(go_at_call 24;((with_reducible refine (HSM16.out u5 HU5.out).mono ?_);rintro e u6 ⟨rfl,hb⟩;have HU6:=hq_ (Et (Ea HU5.out _) hb);have r4:=Ext.cell HU6.out HK.out.1;have r5:=Ext.cell HU6.out HK.out.2;clear hb)))
 go_ret;exact ⟨rfl,Et HB2.out (Et HB15.out HU6.out)⟩
end Go.Proofs.YtkclokcenllhmaaGreat
namespace Go.Proofs.YtkclokcenllhmaaGreat
open Go.RowKit Go.Shelf Go.Maps Kal
theorem nilK {A B:Str} (vA:MStr A) (vB:MStr B) (hno:A.cls=[]):e2_ A B∧f1_ A B:=
 ⟨fun F G cva eva cvb evb w hA hB=>(qq_ F G cva eva cvb evb A B w hA hB vA vB hno).mono fun e w' ⟨r,k,he,hm,hb⟩=>by
  obtain ⟨rfl,rfl⟩:=hm.eqs;exact ⟨he,hb⟩,fun F G cva eva cvb evb w hA hB=>p0_ F G cva eva cvb evb A B _ w hA hB vA vB oq_ oq_ hno⟩
theorem ez_ (w:World):Calls Tryz.prog 13 #[] w fun e w'=>e=.returned (.bool true)∧Below w.heap.size w w':=ud_ (fun _ _ vA vB hno=>nilK vA vB hno) w
end Go.Proofs.YtkclokcenllhmaaGreat
namespace Go.Proofs.YtkclokcenllhmaaGreat
open Go.RowKit Go.Maps Kal
theorem hn_ (v:Value) (l:List Int) (lim:Int) (w:World) (hv:Ints w v l) :
  Calls Tryz.prog 237 #[v,.int .i64 lim] w fun e w'=>e=.returned (.bool (ak_ (-1) lim l))∧∃ n,w'=w.drewN n:=by
 obtain ⟨⟨a,c,rfl,hlc,hc,hcells⟩,hlen,hb⟩:=hv
 go_enter Tryz.func237,Tryz.ntmps237
 go_wp2_with fail
 go_loopw [5] (fun i wr=>∃ (k:Nat) (pv:Int),k≤l.length∧i=.int .i64 k∧((k=0∧pv=-1)∨(1≤k∧pv=l.getD (k-1) 0∧0≤pv))∧ak_ (-1) lim l=ak_ pv lim (l.drop k)∧∃ n,wr=w.drewN n) (fun i _=>l.length-(intOf i).toNat)
 case atStart=>exact ⟨0,-1,oq_,rfl,.inl ⟨rfl,rfl⟩,sq_,0,rfl⟩
 case round=>
  obtain ⟨k,pv,hk,rfl,hpv,hr,n,rfl⟩:=hrel;have HR:=hq_ hr;clear hr;by_cases hlt:k<l.length
  ·rcases hcells with h|⟨b,o,rfl,hcell⟩
   ·rw [h] at hlt;simp at hlt
   have hcl:=hcell k hlt;have hlI:(k:Int)<l.length:=oq_;have hdr:ak_ pv lim (l.drop k)=if l.getD k 0≤pv∨lim≤l.getD k 0 then false else ak_ (l.getD k 0) lim (l.drop (k+1)):=by rw [drop_cons hlt,ak_]
   rw [hdr] at HR;clear hdr;obtain ⟨x,hx⟩:∃ x,x=l.getD k 0:=⟨_,rfl⟩;rw [<- hx] at hcl HR;have HX:=hq_ hx;clear hx;have hend:∀ q:Bool,(x≤pv∨lim≤x↔q=true)->ak_ (-1) lim l=if q then false else ak_ x lim (l.drop (k+1)):=fun q h=>by
    rw [HR.out];cases q <;> simp at h <;> simp [h]
   have HEND:=hq_ hend;clear hend;rcases hpv with ⟨hk0,hp0⟩|⟨hk1,hpe,hp0⟩
   ·have hkz:¬ (0:Int)<k:=oq_;have hkd:decide ((0:Int)<(k:Int))=false:=by simp [hk0]
    have hkn:decide (0<k)=false:=by simp [hk0]
    have hkm:¬ 0<k:=oq_;have HK0:=hq_ hk0;have HP0:=hq_ hp0;clear hcell hk0 hp0;by_cases h1:x<0
    ·have d1:decide (x<0)=true:=by simp [h1]
     go_wp2_with fail
     go_quiet (fail)
     go_wp2_with fail
     go_ret;refine ⟨a1_ ?_,_,World.drewN_drewN _ _ _⟩;rw [HEND.out true (by have:=HP0.out;simp;omega)];rfl
    ·have d1:decide (x<0)=false:=by simp;omega
     by_cases h2:lim≤x
     ·have d2:decide (lim≤x)=true:=by simp [h2]
      go_wp2_with fail
      go_quiet (fail)
      go_wp2_with fail
      go_ret;refine ⟨a1_ ?_,_,World.drewN_drewN _ _ _⟩;rw [HEND.out true (by simp [h2])];rfl
     ·have d2:decide (lim≤x)=false:=by simp;omega
      go_wp2_with fail
      go_quiet (fail)
      go_wp2_with fail
      go_roundw
      case rel=>exact ⟨k+1,x,oq_,by go_num,.inr ⟨oq_,HX.out,oq_⟩,by rw [HEND.out false (by have:=HP0.out;simp;omega)];rfl,_,rfl⟩
      case measure=>simp [intOf];omega
   ·have hcl2:=hcell (k-1) oq_;have hkz:(0:Int)<k:=oq_;have hkd:decide ((0:Int)<(k:Int))=true:=by simp;omega
    rw [<- hpe] at hcl2;have HPE:=hq_ hpe;clear hcell hpe;by_cases h1:x<0
    ·have d1:decide (x<0)=true:=by simp [h1]
     go_wp2_with fail
     go_quiet (fail)
     go_wp2_with fail
     go_ret;refine ⟨a1_ ?_,_,World.drewN_drewN _ _ _⟩;rw [HEND.out true tq_];rfl
    ·have d1:decide (x<0)=false:=by simp;omega
     by_cases h2:lim≤x
     ·have d2:decide (lim≤x)=true:=by simp [h2]
      go_wp2_with fail
      go_quiet (fail)
      go_wp2_with fail
      go_ret;refine ⟨a1_ ?_,_,World.drewN_drewN _ _ _⟩;rw [HEND.out true (by simp [h2])];rfl
     ·have d2:decide (lim≤x)=false:=by simp;omega
      obtain ⟨k',hk'⟩:∃ k',k=k'+1:=⟨k-1,oq_⟩;subst hk';rw [show k'+1-1=k' from by omega] at hcl2;have hs1:(((k'+1:Nat):Int)-1)=(k':Int):=oq_;by_cases h3:x≤pv
      ·have d3:decide (x≤pv)=true:=by simp [h3]
       go_wp2_with fail
       go_quiet (fail)
       go_wp2_with fail
       go_ret;refine ⟨a1_ ?_,_,World.drewN_drewN _ _ _⟩;rw [HEND.out true (by simp [h3])];rfl
      ·have d3:decide (x≤pv)=false:=by simp;omega
       go_wp2_with fail
       go_quiet (fail)
       go_wp2_with fail
       go_roundw
       case rel=>exact ⟨k'+1+1,x,oq_,by go_num,.inr ⟨oq_,HX.out,oq_⟩,by rw [HEND.out false tq_];rfl,_,rfl⟩
       case measure=>simp [intOf];omega
  ·obtain rfl:k=l.length:=oq_;go_wp2_with fail
   go_ret;exact ⟨a1_ (by rw [HR.out,List.drop_length];rfl),n,rfl⟩
theorem up_ {head cycle:List Int} {frm period:Int} (h:frm<0∨1099511627776<frm∨period<1∨1099511627776<period∨1048576<(head.length:Int)+cycle.length):validB ⟨head,frm,period,cycle⟩=false:=by
 unfold validB;rcases h with h|h|h|h|h
 ·rw [decide_eq_false (show ¬ 0≤frm by omega)];rfl
 ·rw [decide_eq_false (show ¬ frm≤1099511627776 by omega)];simp
 ·rw [decide_eq_false (show ¬ 1≤period by omega)];simp
 ·rw [decide_eq_false (show ¬ period≤1099511627776 by omega)];simp
 ·rw [decide_eq_false (show ¬ (head.length:Int)+cycle.length≤1048576 by omega)];simp
theorem sh_ {head cycle:List Int} {frm period:Int} (h:0≤frm∧frm≤1099511627776∧1≤period∧period≤1099511627776∧(head.length:Int)+cycle.length≤1048576):validB ⟨head,frm,period,cycle⟩=(ak_ (-1) frm head && ak_ (-1) period cycle):=by
 unfold validB;rw [decide_eq_true h.1,decide_eq_true h.2.1,decide_eq_true h.2.2.1,decide_eq_true h.2.2.2.1,decide_eq_true h.2.2.2.2];simp
theorem oh_ (h c:Value) (p:Per) (w:World) (hp:cr_ w h c p) (hf:InI p.frm) (ht:InI p.period) :
  Calls Tryz.prog 197 #[perV h c p.frm p.period] w fun e w'=>e=.returned (.bool (validB p))∧Below w.heap.size w w':=by
 unfold InI at hf ht;have hh':∀ W,Below w.heap.size w W->Ints W h p.head:=fun W hb=>hp.hd.ext hb;have hc':∀ W,Below w.heap.size w W->Ints W c p.cycle:=fun W hb=>hp.cy.ext hb;have hl1:=hp.hd.len;have hl2:=hp.cy.len;obtain ⟨a1,c1,a2,c2,rfl,rfl⟩:=hp.inn.form;obtain ⟨head,frm,period,cycle⟩:=p;dsimp only at *;obtain ⟨r1,hr1⟩:∃ r1,r1=ak_ (-1) frm head:=⟨_,rfl⟩;obtain ⟨r2,hr2⟩:∃ r2,r2=ak_ (-1) period cycle:=⟨_,rfl⟩;have HR1:=hq_ hr1.symm;have HR2:=hq_ hr2.symm;clear hp hr1 hr2
 go_enter Tryz.func197,Tryz.ntmps197
 go_wp2_with (go_at_call 237;first|((with_reducible refine (hn_ (.slice a1 head.length c1) head frm _ (hh' _ xE)).mono ?_);rintro e w1 ⟨he,n1,rfl⟩;rw [HR1.out] at he;subst he)|((with_reducible refine (hn_ (.slice a2 cycle.length c2) cycle period _ (hc' _ xE)).mono ?_);rintro e w2 ⟨he,n2,rfl⟩;rw [HR2.out] at he;subst he))
 all_goals go_ret
 all_goals first
  | exact ⟨a1_ (up_ oq_).symm,xE⟩
  | (refine ⟨a1_ ?_,xE⟩;rw [sh_ oq_,HR1.out,HR2.out];first|rfl|simp [*])
theorem mq_ (F:Nat->Prop) (v:Value) (m:List (List Per)) (w:World) (hm:MixR w F v m) :
  Calls Tryz.prog 141 #[.agg #[v]] w fun e w'=>e=.returned (.bool (ag_ m))∧Below w.heap.size w w':=by
 obtain ⟨L,hLm,hL⟩:=hm;obtain ⟨a,c,rfl,_⟩:=hL.row;have HL:=hq_ hL;have hlen:=hL.len;have hml:m.length=L.length:=by rw [<- hLm];exact List.length_map _
 have HLM:=hq_ hLm;have HM:=hq_ hml;clear hL hLm hml
 go_enter Tryz.func141,Tryz.ntmps141
 by_cases hgt:64<L.length
 ·have hgI:64<(L.length:Int):=oq_;go_wp2_with fail
  go_ret;refine ⟨a1_ ?_,xE⟩;have:=HM.out;unfold ag_;rw [decide_eq_false oq_];rfl
 have hgI:¬ 64<(L.length:Int):=oq_;go_wp2_with fail
 go_loopw [3,4,5] (fun i _ _ wr=>∃ k:Nat,k≤L.length∧i=.int .i64 k∧Hid ((m.take k).all aw_=true)∧Hid (Below w.heap.size w wr)∧Hid (Bxx wr w.heap.size #[.slice a L.length c] 128)) (fun i _ _ _=>L.length-(intOf i).toNat)
 case atStart=>exact ⟨0,oq_,rfl,hq_ rfl,hq_ xE,hq_ xB⟩
 case round=>
  obtain ⟨k,hk,rfl,HPRE,HBL,HBX⟩:=hrel;have hc0:=(Bxx.cells HBX.out 0).1;by_cases hlt:k<L.length
  ·have hlI:(k:Int)<L.length:=oq_;obtain ⟨b8,f8,tv,rfl,hcell,hT⟩:=(HL.out.keep (a3_.below HBL.out) HBL.out.size).get hlt;rw [HLM.out] at hT;have HSU:Hid ((m.take (k+1)).all aw_=((m.take k).all aw_ && aw_ (m.getD k []))):=hq_ (i2_ (l:=m) (k:=k) (d:=[]) (p:=aw_) (show k<m.length by have:=HM.out;omega));have HF:Hid (aw_ (m.getD k [])=false->ag_ m=false):=hq_ fun h=>by unfold ag_;rw [all_false (l:=m) (k:=k) (d:=[]) (show k<m.length by have:=HM.out;omega) h,Bool.and_false]
   generalize m.getD k []=t at *;obtain ⟨T,hTt,hTL⟩:=hT;obtain ⟨a2,c2,rfl,_⟩:=hTL.row;have htl:t.length=T.length:=by rw [<- hTt,List.length_map]
   have ht44:=hTL.len;have HTL:=hq_ hTL;have HTT:=hq_ hTt;have HTN:=hq_ htl;clear hTL hTt htl;by_cases h1:T.length<1
   ·have h1I:(T.length:Int)<1:=oq_;go_wp2_with fail
    go_ret;refine ⟨a1_ (HF.out ?_).symm,HBL.out⟩;have:=HTN.out;unfold aw_;rw [decide_eq_false oq_];rfl
   ·by_cases h2:4<T.length
    ·have h1I:¬ (T.length:Int)<1:=oq_;have h2I:4<(T.length:Int):=oq_;go_wp2_with fail
     go_ret;refine ⟨a1_ (HF.out ?_).symm,HBL.out⟩;have:=HTN.out;unfold aw_;rw [decide_eq_false (p:=t.length≤4) oq_,Bool.and_false];rfl
    ·have h1I:¬ (T.length:Int)<1:=oq_;have h2I:¬ 4<(T.length:Int):=oq_;have HV4:Hid (aw_ t=t.all validB):=hq_ (by have:=HTN.out;unfold aw_;rw [decide_eq_true oq_,decide_eq_true oq_];rfl);obtain ⟨wo,hwo⟩:∃ wo,wo=wr:=⟨_,rfl⟩;have HBO:=HBL;rw [<- hwo] at HBO HTL HBX;have HWO:=hq_ hwo;clear hwo;go_wp2_with fail
     go_loopw [5] (fun i wq=>∃ j:Nat,j≤T.length∧i=.int .i64 j∧Hid ((t.take j).all validB=true)∧Hid (Below wo.heap.size wo wq)) (fun i _=>T.length-(intOf i).toNat)
     case atStart=>exact ⟨0,oq_,rfl,hq_ rfl,hq_ (by rw [<- HWO.out];exact Er _)⟩
     case round=>
      obtain ⟨j,hj,rfl,HPR2,HB2⟩:=hrel;by_cases hlt2:j<T.length
      ·have hlI2:(j:Int)<T.length:=oq_;obtain ⟨b1,o1,x,rfl,hx,hxp,hb1,e0,e1,e2,e3⟩:=(HTL.out.keep (a3_.below HB2.out) HB2.out.size).get hlt2;rw [HTT.out] at hxp;have HS2:Hid ((t.take (j+1)).all validB=((t.take j).all validB && validB x.p)):=hq_ (by rw [hxp];exact i2_ (l:=t) (k:=j) (d:=default) (p:=validB) (show j<t.length by have:=HTN.out;omega));have HF2:Hid (validB x.p=false->t.all validB=false):=hq_ fun h=>all_false (l:=t) (k:=j) (d:=default) (show j<t.length by have:=HTN.out;omega) (by rw [<- hxp];exact h);obtain ⟨xh,xc,xp⟩:=x;obtain ⟨ax1,nx1,cx1,ax2,nx2,cx2,rfl,rfl⟩:=hx.form;have HR:=fun W (h:Below wr.heap.size wr W)=>oh_ (.slice ax1 nx1 cx1) (.slice ax2 nx2 cx2) xp W (hx.is.ext h) hx.fr hx.pe;change ∀ W,_->Calls _ _ #[.agg #[.slice ax1 nx1 cx1,.int .i64 xp.frm,.int .i64 xp.period,.slice ax2 nx2 cx2]] W (fun e w'=>e=.returned (.bool (validB xp))∧_) at HR;dsimp only at e0 e1 e2 e3 HS2 HF2;clear hxp hx;generalize validB xp=bb at *;have HR:=hq_ HR;cases bb
       ·go_wp2_with (go_at_call 197;(with_reducible refine (HR.out _ (Er _)).mono ?_);rintro e w1 ⟨rfl,hb2⟩)
        go_ret;exact ⟨a1_ (HF.out (HV4.out.trans (by first|exact HF2.out rfl|exact HF2.out trivial|exact HF2.out))).symm,Et HBO.out (Et HB2.out hb2)⟩
       ·go_wp2_with (go_at_call 197;(with_reducible refine (HR.out _ (Er _)).mono ?_);rintro e w1 ⟨rfl,hb2⟩)
        go_roundw
        case rel=>exact ⟨j+1,oq_,by go_num,hq_ (by rw [HS2.out,HPR2.out];rfl),hq_ (Et HB2.out hb2)⟩
        case measure=>simp [intOf];omega
      ·obtain rfl:j=T.length:=oq_;go_wp2_with fail
       go_roundw
       case rel=>
        refine ⟨k+1,oq_,by go_num,hq_ ?_,hq_ (Et HBO.out HB2.out),hq_ (Bxx.below HBX.out HB2.out)⟩;have h1:=HTN.out;have h2:=HPR2.out;rw [List.take_of_length_le oq_] at h2;rw [HSU.out,HPRE.out,HV4.out,h2];rfl
       case measure=>simp [intOf];omega
  ·obtain rfl:k=L.length:=oq_;go_wp2_with fail
   go_ret;refine ⟨a1_ (Eq.symm ?_),HBL.out⟩;have h1:=HM.out;have h2:=HPRE.out;rw [List.take_of_length_le oq_] at h2;unfold ag_;rw [decide_eq_true oq_,h2];rfl
theorem ej_ (x lo hi:Int) (w:World) (h1:lo≤x) (h2:x≤hi) :
  Calls Tryz.prog 140 #[.int .i64 x,.int .i64 lo,.int .i64 hi] w fun e w'=>e=.returned (.bool true)∧w=w':=by
 go_enter Tryz.func140,Tryz.ntmps140
 go_wp2;go_ret;exact ⟨rfl,rfl⟩
theorem uc_ (y:Inst) (w:World) (h:br_ y) :
  Calls Tryz.prog 142 #[ival y] w fun e w'=>e=.returned (.bool true)∧Below w.heap.size w w':=by
 obtain ⟨yd,yf,yt⟩:=y;obtain ⟨⟨h1,h2⟩,⟨h3,h4⟩,h5,h6⟩:=h;dsimp only at h1 h2 h3 h4 h5 h6;have HA:=fun W=>ej_ yd 0 1099511627776 W h1 h2;have HB:=fun W=>ej_ yf (-2251799813685248) 1583296743997439 W h3 h4;have HC:=fun W=>ej_ yt (yf+1) (yf+10080) W h5 h6;show Calls _ _ #[.agg #[.int .i64 yd,.int .i64 yf,.int .i64 yt]] _ _
 go_enter Tryz.func142,Tryz.ntmps142
 go_wp2_with (go_at_call 140;first|((with_reducible refine (HA _).mono ?_);rintro e w1 ⟨rfl,rfl⟩)|((with_reducible refine (HB _).mono ?_);rintro e w1 ⟨rfl,rfl⟩)|((with_reducible refine (HC _).mono ?_);rintro e w1 ⟨rfl,rfl⟩))
 go_ret;exact ⟨rfl,xE⟩
theorem nc_ (F:Nat->Prop) (cv ev:Value) (s:Str) (w:World) (h:StrR w F cv ev s) (hv:bc_ ag_ s) :
  Calls Tryz.prog 89 #[.agg #[cv,.int .i64 s.len,ev]] w fun e w'=>e=.returned (.bool true)∧Below w.heap.size w w':=by
 obtain ⟨L,h⟩:=h;have hln:s.cls.length=L.length:=by rw [<- h.eq];exact List.length_map _
 obtain ⟨ac,cc,rfl⟩:=h.cl.form;obtain ⟨ae,ce,rfl⟩:=h.ex.form;have hl1:L.length≤64:=by have:=hv.ncls;omega
 have hl2:=hv.next;obtain ⟨hi1,hi2⟩:=hv.len;have HS:=hq_ h;have HV:=hq_ hv;have HLN:=hq_ hln;have HIL:=hq_ (fun W=>ej_ s.len 1 10080 W hi1 hi2);have hb0:Bxx (w.alloc (.cells #[.slice ac L.length cc,.int .i64 s.len,.slice ae s.ext.length ce] 55)) w.heap.size #[.slice ac L.length cc,.int .i64 s.len,.slice ae s.ext.length ce] 55:=Bxx.at rfl;have HBX:=hq_ hb0;have n2I:¬ (64:Int)<L.length:=oq_;have n4I:¬ (4096:Int)<s.ext.length:=oq_;have n5I:decide ((4096:Int)<(s.ext.length:Int))=false:=decide_eq_false n4I;clear h hv hln hb0
 go_enter Tryz.func89,Tryz.ntmps89
 go_wp2_with (go_at_call 140;(with_reducible refine (HIL.out _).mono ?_);rintro e w1 ⟨rfl,rfl⟩)
 clear n5I;go_loopw [3,4] (fun i _ wr=>∃ k:Nat,k≤L.length∧i=.int .i64 k∧Hid (Below w.heap.size w wr)∧Hid (Bxx wr w.heap.size #[.slice ac L.length cc,.int .i64 s.len,.slice ae s.ext.length ce] 55)) (fun i _ _=>L.length-(intOf i).toNat)
 case atStart=>exact ⟨0,oq_,rfl,hq_ xE,HBX⟩
 case round=>
  obtain ⟨k,hk,rfl,HB,HBB⟩:=hrel;have q0:=(HBB.out.cells 0).1;by_cases hlt:k<L.length
  ·have hlI:(k:Int)<L.length:=oq_;obtain ⟨b,o,a1,c1,m,mi,rfl,hbb,e0,e1,hm,him,hcl⟩:=HS.out.cl.get hlt;have hkc:k<s.cls.length:=by rw [HLN.out];exact hlt
   rw [HS.out.eq] at hcl;obtain ⟨gv,⟨gm1,gm2⟩,gr⟩:=HV.out.cls k hkc;rw [hcl] at gv gm1 gm2;have HVA:=fun W (hb:Below w.heap.size w W)=>mq_ F (.slice a1 m.length c1) m W (hm.ext hb);have gv:ag_ m=true:=gv;rw [gv] at HVA;have HVA:=hq_ HVA;have HIA:=hq_ (fun W=>ej_ mi (-4320) 4320 W gm1 gm2);have HPM:Hid (∀ j,k=j+1->∃ pm,w.cell? ⟨b,o+j*2+1,none⟩=some (.int .i64 pm)∧pm<mi):=hq_ fun j hj=>by
    obtain ⟨b',o',_,_,m',pm,hbo,_,_,g1,_,_,g2⟩:=HS.out.cl.get (show j<L.length by omega);injection hbo with hbo
    injection hbo with q1 q2
    subst q1 q2;have g3:=gr j hj;rw [<- HS.out.eq,g2,HS.out.eq,hcl] at g3;exact ⟨pm,g1,g3⟩
   have e0':=Ext.cell HB.out e0;have e1':=Ext.cell HB.out e1;clear e0 e1 hm him hcl hkc gv gm1 gm2 gr;go_upto_region 7 with (fail)
   refine bf_ (F:=fun U=>Bxx U wr.heap.size #[.slice a1 m.length c1,.int .i64 mi] 130∧Below wr.heap.size wr U) ⟨Bxx.new _ _ _,Ea (Er _) _⟩ ?_;rintro W2 ⟨hcb,hb2⟩;have x0:=(hcb.cells 0).1;have x1:=(hcb.cells 1).1;have hbu:Below w.heap.size w W2:=Et HB.out hb2;have s0:=((HBB.out.below hb2).cells 0).1;have HB2:=hq_ hb2;clear hcb hb2 e0' e1';cases k with
   | zero=>
    rw [show (((0:Nat):Int))=0 from rfl];refine a6_ (w0:=W2) [0,1,2,3,4,5,6,7,8,9,10,11,12,13,14,15,16,17,18,19,20,21,22,23,24,25] [] [34,35,36,37,38,39,40,41,42,43,44,45,46,47,48,49,50,51,52,53,54,55,56,57,58,59] [.pointer (some ⟨wr.heap.size,0,none⟩),.agg #[.slice a1 m.length c1],.bool true,.bool false,.bool false,.pointer (some ⟨wr.heap.size,1,none⟩),.int .i64 mi,.bool true,.bool false,.bool false,.bool false,.int .i64 0,.bool false,.bool false,undef,undef,undef,undef,undef,undef,undef,undef,undef,undef,.bool false,.bool false] [[],[0],[1],[2],[3],[4],[4,5],[4,6],[4,7],[4,8],[9],[10],[10,11],[10,12],[13],[13,14],[13],[13,16],[13,15,17],[13,18],[13,19],[13],[13,21],[13,20,22],[10,13,23],[10,24]] (.a x0 (.z x1)) ?steps7a ?fin7a
    case steps7a=>
     repeat' first|exact .n|refine .c ?_ ?_|fail
     all_goals try exact stp
     all_goals
      rintro v W hb ⟨g0,g1⟩;refine .inl ⟨rfl,fun K hK=>?_⟩;simp only [ov,vat,Nat.reduceBEq,cond_true,cond_false];go_wp2_with (first|(go_at_call 141;(with_reducible refine (HVA.out _ (Et hbu hb)).mono ?_);rintro e w9 ⟨rfl,hb9⟩)|(go_at_call 140;(with_reducible refine (HIA.out _).mono ?_);rintro e w9 ⟨rfl,h9⟩;have hb9:Below W.heap.size W w9:=h9 ▸ Below.refl _ _;clear h9))
      exact acx (hK w9 hb9) (by simp [ov,vat])
    case fin7a=>
     rintro W3 hb3 hg;show wpList _ _ _ [] _ _;simp only [vat];have HB3:=hq_ (Et HB2.out hb3);clear hg hb3 x0 x1 s0 hbu;go_wp2_with fail
     go_roundw
     case rel=>exact ⟨0+1,oq_,by go_num,hq_ (Et HB.out HB3.out),hq_ (HBB.out.below HB3.out)⟩
     case measure=>simp [intOf];omega
   | succ j=>
    obtain ⟨pm,hp1,hpm⟩:=HPM.out j rfl;have p1:=Ext.cell hbu hp1;have hpI:¬ mi≤pm:=oq_;have hjI:(0:Int)<(j:Int)+1:=oq_;clear hp1;rw [show (((j+1:Nat):Int))=(j:Int)+1 by omega];refine a6_ (w0:=W2) [0,1,2,3,4,5,6,7,8,9,10,11,12,13,14,15,16,17,18,19,20,21,22,23,24,25] [] [34,35,36,37,38,39,40,41,42,43,44,45,46,47,48,49,50,51,52,53,54,55,56,57,58,59] [.pointer (some ⟨wr.heap.size,0,none⟩),.agg #[.slice a1 m.length c1],.bool true,.bool false,.bool false,.pointer (some ⟨wr.heap.size,1,none⟩),.int .i64 mi,.bool true,.bool false,.bool false,.bool false,.int .i64 ((j:Int)+1),.bool true,.bool true,.pointer (some ⟨w.heap.size,0,none⟩),.slice (some ⟨b,o,none⟩) L.length cc,.int .i64 ((j:Int)+1),.int .i64 (j:Int),.pointer (some ⟨b,o+j*2,none⟩),.pointer (some ⟨b,o+j*2+1,none⟩),.int .i64 pm,.pointer (some ⟨wr.heap.size,1,none⟩),.int .i64 mi,.bool false,.bool false,.bool false] [[],[0],[1],[2],[3],[4],[4,5],[4,6],[4,7],[4,8],[9],[10],[10,11],[10,12],[13],[13,14],[13],[13,16],[13,15,17],[13,18],[13,19],[13],[13,21],[13,20,22],[10,13,23],[10,24]] (.a x0 (.a x1 (.a s0 (.z p1)))) ?steps7b ?fin7b
    case steps7b=>
     repeat' first|exact .n|refine .c ?_ ?_|fail
     all_goals try exact stp
     all_goals
      rintro v W hb ⟨g0,g1,g2,g3⟩;refine .inl ⟨rfl,fun K hK=>?_⟩;simp only [ov,vat,Nat.reduceBEq,cond_true,cond_false];go_wp2_with (first|(go_at_call 141;(with_reducible refine (HVA.out _ (Et hbu hb)).mono ?_);rintro e w9 ⟨rfl,hb9⟩)|(go_at_call 140;(with_reducible refine (HIA.out _).mono ?_);rintro e w9 ⟨rfl,h9⟩;have hb9:Below W.heap.size W w9:=h9 ▸ Below.refl _ _;clear h9))
      exact acx (hK w9 hb9) (by simp [ov,vat])
    case fin7b=>
     rintro W3 hb3 hg;show wpList _ _ _ [] _ _;simp only [vat];have HB3:=hq_ (Et HB2.out hb3);clear hg hb3 x0 x1 s0 p1 hbu;go_wp2_with fail
     go_roundw
     case rel=>exact ⟨j+1+1,oq_,by go_num,hq_ (Et HB.out HB3.out),hq_ (HBB.out.below HB3.out)⟩
     case measure=>simp [intOf];omega
  ·obtain rfl:k=L.length:=oq_;have s2:=(HBB.out.cells 2).1;go_wp2_with fail
   go_loopw [5] (fun i wr=>∃ k:Nat,k≤s.ext.length∧i=.int .i64 k∧Hid (Below w.heap.size w wr)∧Hid (Bxx wr w.heap.size #[.slice ac L.length cc,.int .i64 s.len,.slice ae s.ext.length ce] 55)) (fun i _=>s.ext.length-(intOf i).toNat)
   case atStart=>exact ⟨0,oq_,rfl,HB,HBB⟩
   case round=>
    obtain ⟨k,hk,rfl,HB,HBB⟩:=hrel;have s2:=(HBB.out.cells 2).1;by_cases hlt:k<s.ext.length
    ·have hlI:(k:Int)<s.ext.length:=oq_;obtain ⟨b,o,y,rfl,hbl,hy,hyi,y0,y1,y2⟩:=(HS.out.ex.ext HB.out).get hlt;obtain ⟨gg,gr⟩:=HV.out.ext k hlt;rw [hy] at gg;have HGX:=hq_ (fun W=>uc_ y W gg);have HYL:=hq_ gr;have HY:=hq_ hy;clear gg gr hy hyi;go_upto_region 12 with (fail)
     cases k with
     | zero=>
      rw [show (((0:Nat):Int))=0 from rfl];simp only [Nat.zero_mul,Nat.add_zero] at y0 y1 y2;have HLS:=hq_ (fun W=>gz_ y y W);refine a6_ (w0:=wr) [0,1,2,3,4,5,6,7,8,9,10,11,12,13,14,15,16,17,18,19,20,21,22,23,24,25] [] [67,68,69,70,71,72,73,74,75,76,77,78,79,80,81,82,83,84,85,86,87,88,89,90,91,92] [.pointer (some ⟨w.heap.size,2,none⟩),.slice (some ⟨b,o,none⟩) s.ext.length ce,.int .i64 0,.pointer (some ⟨b,o,none⟩),.agg #[.int .i64 y.day,.int .i64 y.frm,.int .i64 y.fin],.bool true,.bool false,.bool false,.int .i64 0,.bool false,.bool false,undef,undef,undef,undef,undef,undef,undef,undef,undef,undef,undef,undef,undef,.bool false,.bool false] [[],[0],[],[1,2],[3],[4],[5],[6],[7],[7,8],[7,9],[10],[10,11],[10],[10,13],[10,12,14],[10,15],[10],[10,17],[10],[10,18,19],[10,20],[10,16,21],[10,22],[7,10,23],[7,24]] (.a s2 (.a y0 (.a y1 (.z y2)))) ?steps12a ?fin12a
      case steps12a=>
       repeat' first|exact .n|refine .c ?_ ?_|fail
       all_goals try exact stp
       all_goals
        rintro v W hb ⟨g0,g1,g2,g3⟩;refine .inl ⟨rfl,fun K hK=>?_⟩;simp only [ov,vat,Nat.reduceBEq,cond_true,cond_false];go_wp2_with (first|(go_at_call 142;(with_reducible refine (HGX.out _).mono ?_);rintro e w9 ⟨rfl,hb9⟩)|(go_at_call 143;(with_reducible refine (HLS.out _).mono ?_);rintro e w9 ⟨rfl,hb9⟩))
        exact acx (hK w9 hb9) (by simp [ov,vat])
      case fin12a=>
       rintro W3 hb3 hg;show wpList _ _ _ [] _ _;simp only [vat];have HB3:=hq_ hb3;clear hg hb3 y0 y1 y2 s2;go_wp2_with fail
       go_roundw
       case rel=>exact ⟨0+1,oq_,by go_num,hq_ (Et HB.out HB3.out),hq_ (HBB.out.below HB3.out)⟩
       case measure=>simp [intOf];omega
     | succ j=>
      obtain ⟨b',o',z,hbo,_,hz,_,z0,z1,z2⟩:=(HS.out.ex.ext HB.out).get (show j<s.ext.length by omega);injection hbo with hbo
      injection hbo with i1 i2
      subst i1 i2;have hlz:=HYL.out j rfl;rw [HY.out,hz] at hlz;have HLS:=fun W=>gz_ z y W;rw [decide_eq_true hlz] at HLS;have HLS:=hq_ HLS;have hjI:(0:Int)<(j:Int)+1:=oq_;clear hlz hz;rw [show (((j+1:Nat):Int))=(j:Int)+1 by omega];refine a6_ (w0:=wr) [0,1,2,3,4,5,6,7,8,9,10,11,12,13,14,15,16,17,18,19,20,21,22,23,24,25] [] [67,68,69,70,71,72,73,74,75,76,77,78,79,80,81,82,83,84,85,86,87,88,89,90,91,92] [.pointer (some ⟨w.heap.size,2,none⟩),.slice (some ⟨b,o,none⟩) s.ext.length ce,.int .i64 ((j:Int)+1),.pointer (some ⟨b,o+(j+1)*3,none⟩),.agg #[.int .i64 y.day,.int .i64 y.frm,.int .i64 y.fin],.bool true,.bool false,.bool false,.int .i64 ((j:Int)+1),.bool true,.bool true,.pointer (some ⟨w.heap.size,2,none⟩),.slice (some ⟨b,o,none⟩) s.ext.length ce,.int .i64 ((j:Int)+1),.int .i64 (j:Int),.pointer (some ⟨b,o+j*3,none⟩),.agg #[.int .i64 z.day,.int .i64 z.frm,.int .i64 z.fin],.pointer (some ⟨w.heap.size,2,none⟩),.slice (some ⟨b,o,none⟩) s.ext.length ce,.int .i64 ((j:Int)+1),.pointer (some ⟨b,o+(j+1)*3,none⟩),.agg #[.int .i64 y.day,.int .i64 y.frm,.int .i64 y.fin],.bool true,.bool false,.bool false,.bool false] [[],[0],[],[1,2],[3],[4],[5],[6],[7],[7,8],[7,9],[10],[10,11],[10],[10,13],[10,12,14],[10,15],[10],[10,17],[10],[10,18,19],[10,20],[10,16,21],[10,22],[7,10,23],[7,24]] (.a s2 (.a y0 (.a y1 (.a y2 (.a z0 (.a z1 (.z z2))))))) ?steps12b ?fin12b
      case steps12b=>
       repeat' first|exact .n|refine .c ?_ ?_|fail
       all_goals try exact stp
       all_goals
        rintro v W hb ⟨g0,g1,g2,g3,g4,g5,g6⟩;refine .inl ⟨rfl,fun K hK=>?_⟩;simp only [ov,vat,Nat.reduceBEq,cond_true,cond_false];go_wp2_with (first|(go_at_call 142;(with_reducible refine (HGX.out _).mono ?_);rintro e w9 ⟨rfl,hb9⟩)|(go_at_call 143;(with_reducible refine (HLS.out _).mono ?_);rintro e w9 ⟨rfl,hb9⟩))
        exact acx (hK w9 hb9) (by simp [ov,vat])
      case fin12b=>
       rintro W3 hb3 hg;show wpList _ _ _ [] _ _;simp only [vat];have HB3:=hq_ hb3;clear hg hb3 y0 y1 y2 z0 z1 z2 s2;go_wp2_with fail
       go_roundw
       case rel=>exact ⟨j+1+1,oq_,by go_num,hq_ (Et HB.out HB3.out),hq_ (HBB.out.below HB3.out)⟩
       case measure=>simp [intOf];omega
    ·obtain rfl:k=s.ext.length:=oq_;go_wp2_with fail
     go_ret;exact ⟨rfl,HB.out⟩
theorem jc_ (F:Nat->Prop) (x:EntV) (w:World) (h:REnt w F x) (hg:e0_ ag_ x.ent) :
  Calls Tryz.prog 43 #[x.val] w fun e w'=>e=.returned (.bool true)∧Below w.heap.size w w':=by
 have HV:=fun W (hb:Below w.heap.size w W)=>nc_ F x.cv x.ev x.s W (h.1.ext hb) hg.s;obtain ⟨a1,c1,a2,c2,hcv,hev⟩:=h.1.form;obtain ⟨g1,g2⟩:=hg.id;obtain ⟨g3,g4⟩:=hg.rank;obtain ⟨id,fm,rk,cv,ev,s⟩:=x;dsimp only at hcv hev HV;subst hcv;subst hev;change 1≤id at g1;change id≤1099511627776 at g2;change 0≤rk at g3;change rk≤100 at g4;dsimp only [EntV.val];have HV:=hq_ HV;clear h hg
 go_enter Tryz.func43,Tryz.ntmps43
 go_wp2_with (go_at_call 89;(with_reducible refine (HV.out _ xE).mono ?_);rintro e w1 ⟨rfl,hb1⟩)
 go_ret;exact ⟨rfl,xE⟩
theorem nd_ (F:Nat->Prop) (v:Value) (L:List EntV) (w:World) (h:DiaL w F v L) (hd:SmD (L.map EntV.ent)) :
  Calls Tryz.prog 42 #[v] w fun e w'=>e=.returned (.bool true)∧Below w.heap.size w w':=by
 obtain ⟨a,c,rfl⟩:=h.form;have hll:L.length≤1000:=by have:=hd.len;rwa [List.length_map] at this
 have n1I:¬ (4096:Int)<L.length:=oq_;have HD:=hq_ h;have HSD:=hq_ hd;clear h hd
 go_enter Tryz.func42,Tryz.ntmps42
 go_wp2_with fail
 go_loopw [3] (fun i wr=>∃ k:Nat,k≤L.length∧i=.int .i64 k∧Hid (Below w.heap.size w wr)) (fun i _=>L.length-(intOf i).toNat)
 case atStart=>exact ⟨0,oq_,rfl,hq_ (Below.refl _ _)⟩
 case round=>
  obtain ⟨k,hk,rfl,HB⟩:=hrel;by_cases hlt:k<L.length
  ·have hlI:(k:Int)<L.length:=oq_;have HLT:=hq_ (show k+1≤L.length by omega);obtain ⟨b,o,x,x1,d1,x2,d2,rfl,hbb,hx,hxm,hxr,hcv,hev,e0,e1,e2,e3,e4,e5⟩:=(HD.out.ext HB.out).get hlt;have HPR:=fun W (hb:Below wr.heap.size wr W)=>jc_ F x W (hxr.ext hb) (HSD.out.good x.ent (List.mem_map.2 ⟨x,hxm,rfl⟩)).1;rw [EntV.val,hcv,hev] at HPR;have HPR:=hq_ HPR;have HX:=hq_ hx;clear hx hxm hxr hcv hev;go_upto_region 6 with (fail)
   cases k with
   | zero=>
    rw [show (((0:Nat):Int))=0 from rfl];simp only [Nat.zero_mul,Nat.add_zero] at e0 e1 e2 e3 e4 e5;refine a6_ (w0:=wr) [0,1,2,3,4,5,6,7,8,9,10,11,12,13,14,15,16,17,18,19,20,21,22,23] [] [13,14,15,16,17,18,19,20,21,22,23,24,25,26,27,28,29,30,31,32,33,34,35,36] [.slice (some ⟨b,o,none⟩) L.length c,.int .i64 0,.pointer (some ⟨b,o,none⟩),.agg #[.int .i64 x.id,.bool x.firm,.int .i64 x.rank,.slice x1 x.s.cls.length d1,.int .i64 x.s.len,.slice x2 x.s.ext.length d2],.bool true,.bool false,.bool false,.int .i64 0,.bool false,.bool false,undef,undef,undef,undef,undef,undef,undef,undef,undef,undef,undef,undef,.bool false,.bool false] [[],[],[0,1],[2],[3],[4],[5],[6],[6,7],[6,8],[9],[9],[9,11],[9,10,12],[9,13],[9,14],[9],[9],[9,16,17],[9,18],[9,19],[9,15,20],[6,9,21],[6,22]] (.a e0 (.a e1 (.a e2 (.a e3 (.a e4 (.a e5 (.b))))))) ?steps6a ?fin6a
    case steps6a=>
     repeat' first|exact .n|refine .c ?_ ?_|fail
     all_goals try exact stp
     all_goals
      rintro v W hb ⟨g0,g1,g2,g3,g4,g5,g6⟩;refine .inl ⟨rfl,fun K hK=>?_⟩;simp only [ov,vat,Nat.reduceBEq,cond_true,cond_false];go_wp2_with (go_at_call 43;(with_reducible refine (HPR.out _ g6).mono ?_);rintro e w9 ⟨rfl,hb9⟩)
      exact acx (hK w9 hb9) (by simp [ov,vat])
    case fin6a=>
     rintro W3 hb3 hg;show wpList _ _ _ [] _ _;simp only [vat];have HB3:=hq_ (Et HB.out hb3);clear hg hb3 e0 e1 e2 e3 e4 e5;go_wp2_with fail
     go_roundw
     case rel=>exact ⟨0+1,HLT.out,by go_num,HB3⟩
     case measure=>simp [intOf];omega
   | succ j=>
    obtain ⟨b',o',z,z1,y1,z2,y2,hbo,-,hz,-,-,-,-,p0,-⟩:=(HD.out.ext HB.out).get (show j<L.length by omega);injection hbo with hbo
    injection hbo with q1 q2
    subst q1;subst q2;have hzx:z.id<x.id:=by
     have hj1:j<(L.map EntV.ent).length:=by rw [List.length_map];omega
     have hj2:j+1<(L.map EntV.ent).length:=by rw [List.length_map];omega
     have:=List.pairwise_iff_getElem.1 HSD.out.asc j (j+1) hj1 hj2 oq_;rw [<- a5_ (d:=default) hj1,<- a5_ (d:=default) hj2,bn_,bn_,hz,HX.out] at this;exact this
    have hzI:¬ x.id≤z.id:=oq_;have hjI:(0:Int)<(j:Int)+1:=oq_;clear hz hzx;rw [show (((j+1:Nat):Int))=(j:Int)+1 by omega];refine a6_ (w0:=wr) [0,1,2,3,4,5,6,7,8,9,10,11,12,13,14,15,16,17,18,19,20,21,22,23] [] [13,14,15,16,17,18,19,20,21,22,23,24,25,26,27,28,29,30,31,32,33,34,35,36] [.slice (some ⟨b,o,none⟩) L.length c,.int .i64 ((j:Int)+1),.pointer (some ⟨b,o+(j+1)*6,none⟩),.agg #[.int .i64 x.id,.bool x.firm,.int .i64 x.rank,.slice x1 x.s.cls.length d1,.int .i64 x.s.len,.slice x2 x.s.ext.length d2],.bool true,.bool false,.bool false,.int .i64 ((j:Int)+1),.bool true,.bool true,.slice (some ⟨b,o,none⟩) L.length c,.int .i64 ((j:Int)+1),.int .i64 (j:Int),.pointer (some ⟨b,o+j*6,none⟩),.pointer (some ⟨b,o+j*6,none⟩),.int .i64 z.id,.slice (some ⟨b,o,none⟩) L.length c,.int .i64 ((j:Int)+1),.pointer (some ⟨b,o+(j+1)*6,none⟩),.pointer (some ⟨b,o+(j+1)*6,none⟩),.int .i64 x.id,.bool false,.bool false,.bool false] [[],[],[0,1],[2],[3],[4],[5],[6],[6,7],[6,8],[9],[9],[9,11],[9,10,12],[9,13],[9,14],[9],[9],[9,16,17],[9,18],[9,19],[9,15,20],[6,9,21],[6,22]] (.a e0 (.a e1 (.a e2 (.a e3 (.a e4 (.a e5 (.a p0 (.b)))))))) ?steps6b ?fin6b
    case steps6b=>
     repeat' first|exact .n|refine .c ?_ ?_|fail
     all_goals try exact stp
     all_goals
      rintro v W hb ⟨g0,g1,g2,g3,g4,g5,g6,g7⟩;refine .inl ⟨rfl,fun K hK=>?_⟩;simp only [ov,vat,Nat.reduceBEq,cond_true,cond_false];go_wp2_with (go_at_call 43;(with_reducible refine (HPR.out _ g7).mono ?_);rintro e w9 ⟨rfl,hb9⟩)
      exact acx (hK w9 hb9) (by simp [ov,vat])
    case fin6b=>
     rintro W3 hb3 hg;show wpList _ _ _ [] _ _;simp only [vat];have HB3:=hq_ (Et HB.out hb3);clear hg hb3 e0 e1 e2 e3 e4 e5 p0;go_wp2_with fail
     go_roundw
     case rel=>exact ⟨j+1+1,HLT.out,by go_num,HB3⟩
     case measure=>simp [intOf];omega
  ·obtain rfl:k=L.length:=oq_;have hkI:¬ (L.length:Int)<L.length:=oq_;go_wp2_with fail
   go_ret;exact ⟨rfl,HB.out⟩
theorem b0_ (h:A.ownsRow B e k v n xs) (hb:Below A.heap.size A C):C.ownsRow B e k v n xs:=
 h.kept (row:=none) ⟨hb.os,hb.tape,hb.output,hb.size,fun b hl _=>hb.block b hl⟩ (by cases v.ownBlock <;> simp)
theorem m6_ (h:W.ownsRow B e k v n xs):RowR W (fun b=>B≤b) v n xs:=by
 have h':=h;obtain ⟨hl,⟨rfl,h2⟩|⟨g,cap,cur,rfl,hb,hg,h3,h4,h5,h6⟩⟩:=h
 ·rw [h2];exact ⟨none,0,rfl,oq_,oq_,.inl rfl⟩
 ·refine ⟨_,cap,rfl,h3,h4,.inr ⟨g,0,rfl,hb,(h'.lt g rfl).2,fun i u hi=>?_⟩⟩;rw [Nat.zero_add];have:=(List.getElem?_eq_some_iff.1 hi).1;exact (h'.cellAt i (by rw [<- hl];exact this)).trans hi
def nv_ (F G:Nat->Prop) (d:List Ent) (x:Ent) (w:World) (e:Ending) (w':World):Prop:=
 ∃ v M,e=.returned (.tuple #[v,.int .i64 0])∧M.map EntV.ent=putD d x∧DiaL w' (fun b=>F b∨G b∨w.heap.size≤b) v M∧Below w.heap.size w w'
theorem pw_ (F G:Nat->Prop) (v:Value) (L:List EntV) (x:EntV) (w:World) (h:DiaL w F v L) (hd:SmD (L.map EntV.ent)) (hx:REnt w G x) (hgx:e0_ ag_ x.ent) :
  Calls Tryz.prog 34 #[v,x.val] w (nv_ F G (L.map EntV.ent) x.ent w):=by
 obtain ⟨a0,c0,rfl⟩:=h.form;have hll:L.length≤1000:=by have:=hd.len;rwa [List.length_map] at this
 have HV:=hq_ (fun W (hb:Below w.heap.size w W)=>nd_ F _ L W (h.ext hb) hd);have HPP:=fun W (hb:Below w.heap.size w W)=>jc_ G x W (hx.ext hb) hgx;have HD:=hq_ h;have HSD:=hq_ hd;have HXR:=hq_ hx;have HX1:=hx.one;obtain ⟨iE,iE1,iE2,iE3,iE4⟩:=hc_;have HIE:=hq_ (And.intro iE1 (And.intro iE2 (And.intro iE3 iE4)));obtain ⟨q1,p1,q2,p2,hcx,hex⟩:=hx.1.form;obtain ⟨xe,hxe⟩:∃ xe,xe=x.ent:=⟨_,rfl⟩;obtain ⟨X,hXX⟩:∃ X,X=x:=⟨_,rfl⟩;have HXX:=hq_ hXX;have hXE:X.ent=xe:=by rw [hXX,hxe]
 have HXE:=hq_ hXE;obtain ⟨xid,xfm,xrk,xcv,xev,xs⟩:=x;dsimp only at hcx hex;subst hcx;subst hex;dsimp only [EntV.val] at HPP ⊢;have HPP:=hq_ HPP;have hXenc:X.enc=[.int .i64 xid,.bool xfm,.int .i64 xrk,.slice q1 xs.cls.length p1,.int .i64 xs.len,.slice q2 xs.ext.length p2]:=by rw [hXX];rfl
 have HXN:=hq_ hXenc;have HX1:=hq_ (show ∀ u∈([.int .i64 xid,.bool xfm,.int .i64 xrk,.slice q1 xs.cls.length p1,.int .i64 xs.len,.slice q2 xs.ext.length p2]:List Value),u.oneCell'=true from HX1);rw [<- hxe];have hid:xe.id=xid:=by rw [hxe];rfl
 have HID:=hq_ hid;clear h hd hx hgx iE1 iE2 iE3 iE4 hxe hid hXX hXE hXenc
 go_enter Tryz.func34,Tryz.ntmps34
 go_wp2_with (first|(go_at_call 42;(with_reducible refine (HV.out _ (Ea (Er w) _)).mono ?_);rintro e w1 ⟨rfl,hb1⟩;have HB1:=hq_ (Et (Ea (Er w) _) hb1);have hbx:=(Bxx.new w #[.int .i64 xid,.bool xfm,.int .i64 xrk,.slice q1 xs.cls.length p1,.int .i64 xs.len,.slice q2 xs.ext.length p2] 57).below hb1;have HXB:=hq_ hbx;have x0:=(hbx.cells 0).1;have x1:=(hbx.cells 1).1;have x2:=(hbx.cells 2).1;have x3:=(hbx.cells 3).1;have x4:=(hbx.cells 4).1;have x5:=(hbx.cells 5).1;clear hb1 hbx)|(go_at_call 43;(with_reducible refine (HPP.out _ HB1.out).mono ?_);rintro e w2 ⟨rfl,hb2⟩;have HB2:=hq_ (Et HB1.out hb2);have HXB:=hq_ (HXB.out.below hb2);have hz2:=HXB.out.lt;clear hb2 x0 x1 x2 x3 x4 x5))
 go_loopw [6,7,8] (fun ov dv iv wr=>∃ (i:Nat) (done:Bool) (o:List EntV),i≤L.length∧iv=.int .i64 i∧dv=.bool done∧Hid (PutI (L.map EntV.ent) xe i done (o.map EntV.ent))∧Hid (wr.ownsRow (w.heap.size+1) 57 6 ov o.length (o.flatMap EntV.enc))∧Hid (∀ y∈o,y∈L∨y=X)∧Hid (Below w.heap.size w wr)∧Hid (Bxx wr w.heap.size #[.int .i64 xid,.bool xfm,.int .i64 xrk,.slice q1 xs.cls.length p1,.int .i64 xs.len,.slice q2 xs.ext.length p2] 57)) (fun _ _ iv _=>L.length-(intOf iv).toNat)
 case atStart=>exact ⟨0,false,[],oq_,rfl,rfl,hq_ PutI.nil,hq_ ⟨sq_,.inr ⟨w2.heap.size,0,#[],rfl,oq_,by simpa using World.alloc_heap_new w2 _,sq_,by simp [maxLen],sq_,sq_⟩⟩,hq_ sq_,hq_ (Ea HB2.out _),hq_ (HXB.out.alloc _)⟩
 case round=>
  obtain ⟨k,done,O,hk,rfl,rfl,HP,HO,HM,HB,HBX⟩:=hrel;obtain ⟨oa,oc,rfl⟩:=a9_ HO.out;have hwz:=HB.out.size;have hOl:O.length≤k+1:=by have:=HP.out.len;rwa [List.length_map] at this
  by_cases hlt:k<L.length
  ·have hlI:(k:Int)<L.length:=oq_;have HLT:=hq_ (show k+1≤L.length by omega);obtain ⟨b,o,y,x1,d1,x2,d2,rfl,hbb,hy,hym,hyr,hcv,hev,e0,e1,e2,e3,e4,e5⟩:=HD.out.get hlt;have hkL:k<(L.map EntV.ent).length:=by rw [List.length_map];exact hlt
   have hge:(L.map EntV.ent).getD k default=y.ent:=by rw [bn_,hy]
   have HKL:=hq_ hkL;have HGE:=hq_ hge;have HYM:=hq_ hym;have HY1:=hyr.one;have hyenc:y.enc=[.int .i64 y.id,.bool y.firm,.int .i64 y.rank,.slice x1 y.s.cls.length d1,.int .i64 y.s.len,.slice x2 y.s.ext.length d2]:=by unfold EntV.enc;rw [hcv,hev]
   rw [hyenc] at HY1;have HY1:=hq_ HY1;have HYN:=hq_ hyenc;have hye:y.ent.id=y.id:=rfl;have z0:=(HBX.out.cells 0).1;have z1:=(HBX.out.cells 1).1;have z2:=(HBX.out.cells 2).1;have z3:=(HBX.out.cells 3).1;have z4:=(HBX.out.cells 4).1;have z5:=(HBX.out.cells 5).1;have HE0:=hq_ e0;have HE1:=hq_ e1;have HE2:=hq_ e2;have HE3:=hq_ e3;have HE4:=hq_ e4;have HE5:=hq_ e5;have f0:=Ext.cell HB.out e0;have f1:=Ext.cell HB.out e1;have f2:=Ext.cell HB.out e2;have f3:=Ext.cell HB.out e3;have f4:=Ext.cell HB.out e4;have f5:=Ext.cell HB.out e5;clear hy hym hyr hcv hev hkL hge hyenc hye hlt e0 e1 e2 e3 e4 e5;cases done with
   | true=>
    have hgt:xid<y.id:=by have:=HP.out.gt HSD.out.asc HKL.out;rw [HGE.out,HID.out] at this;exact this
    have hne:(y.id != xid)=true:=by simp;omega
    have hne2:¬ y.id=xid:=oq_;have HPN:=hq_ (HP.out.rest HSD.out.asc HKL.out);go_wp2_with fail
    go_quiet (fail)
    go_wp2_with fail
    go_quiet (fail)
    go_wp2_with (at_builtin;(refine ac_ rq_ _ _ _ _ rq_ iE _ 6 80 Tryz.underlying25 HIE.out.1 HIE.out.2.1 HIE.out.2.2.1 HIE.out.2.2.2 rfl dq_ dq_ (w.heap.size+1) (.slice oa (O).length oc) (O).length ((O).flatMap EntV.enc) [.int .i64 y.id,.bool y.firm,.int .i64 y.rank,.slice x1 y.s.cls.length d1,.int .i64 y.s.len,.slice x2 y.s.ext.length d2] rfl rq_ (b0_ HO.out xE) _ 1 rq_ (am_ (Bxx.new _ #[.int .i64 y.id,.bool y.firm,.int .i64 y.rank,.slice x1 y.s.cls.length d1,.int .i64 y.s.len,.slice x2 y.s.ext.length d2] 57)) HY1.out tq_ tq_ ?_);intro v' w9 hown9 hgrow9 hloc9;obtain ⟨na9,nc9,rfl⟩:=a9_ hown9;have HB9:=hq_ ((Et HB.out xE).grown hgrow9 tq_ fun q e=>by have:=(HO.out.lt q e).1;omega);have HBX9:=hq_ ((HBX.out.below xE).grown hgrow9 (fun e=>by have:=(HO.out.lt _ e.symm).1;omega));have HO9:=hq_ hown9;clear hown9 hgrow9 hloc9)
    go_roundw
    case rel=>exact ⟨k+1,true,O ++ [y],HLT.out,by go_num,rfl,hq_ (by rw [List.map_append,List.map_cons,List.map_nil,<- HGE.out];exact HPN.out),hq_ (b0_ (by have h:=HO9.out;rw [List.flatMap_append,List.flatMap_cons,List.flatMap_nil,List.append_nil,HYN.out];simpa using h) xE),hq_ (fun z hz=>by rcases List.mem_append.1 hz with hz|hz;exact HM.out z hz;exact .inl (by rw [List.mem_singleton.1 hz];exact HYM.out)),hq_ (Et HB9.out xE),hq_ (HBX9.out.below xE)⟩
    case measure=>have:=HLT.out;simp [intOf];omega
   | false=>
    rcases Int.lt_trichotomy y.id xid with hc|hc|hc
    ·have hge:¬ xid≤y.id:=oq_;have hne:(y.id != xid)=true:=by simp;omega
     have hne2:¬ y.id=xid:=oq_;have HPN:=hq_ (HP.out.low HKL.out (by rw [HGE.out,HID.out];exact hc));go_wp2_with fail
     go_quiet (fail)
     go_wp2_with fail
     go_quiet (fail)
     go_wp2_with (at_builtin;(refine ac_ rq_ _ _ _ _ rq_ iE _ 6 80 Tryz.underlying25 HIE.out.1 HIE.out.2.1 HIE.out.2.2.1 HIE.out.2.2.2 rfl dq_ dq_ (w.heap.size+1) (.slice oa (O).length oc) (O).length ((O).flatMap EntV.enc) [.int .i64 y.id,.bool y.firm,.int .i64 y.rank,.slice x1 y.s.cls.length d1,.int .i64 y.s.len,.slice x2 y.s.ext.length d2] rfl rq_ (b0_ HO.out xE) _ 1 rq_ (am_ (Bxx.new _ #[.int .i64 y.id,.bool y.firm,.int .i64 y.rank,.slice x1 y.s.cls.length d1,.int .i64 y.s.len,.slice x2 y.s.ext.length d2] 57)) HY1.out tq_ tq_ ?_);intro v' w9 hown9 hgrow9 hloc9;obtain ⟨na9,nc9,rfl⟩:=a9_ hown9;have HB9:=hq_ ((Et HB.out xE).grown hgrow9 tq_ fun q e=>by have:=(HO.out.lt q e).1;omega);have HBX9:=hq_ ((HBX.out.below xE).grown hgrow9 (fun e=>by have:=(HO.out.lt _ e.symm).1;omega));have HO9:=hq_ hown9;clear hown9 hgrow9 hloc9)
     go_roundw
     case rel=>exact ⟨k+1,false,O ++ [y],HLT.out,by go_num,rfl,hq_ (by rw [List.map_append,List.map_cons,List.map_nil,<- HGE.out];exact HPN.out),hq_ (b0_ (by have h:=HO9.out;rw [List.flatMap_append,List.flatMap_cons,List.flatMap_nil,List.append_nil,HYN.out];simpa using h) xE),hq_ (fun z hz=>by rcases List.mem_append.1 hz with hz|hz;exact HM.out z hz;exact .inl (by rw [List.mem_singleton.1 hz];exact HYM.out)),hq_ (Et HB9.out xE),hq_ (HBX9.out.below xE)⟩
     case measure=>have:=HLT.out;simp [intOf];omega
    ·have hge:xid≤y.id:=oq_;have hne:(y.id != xid)=false:=by simp;exact hc
     have HPN:=hq_ (HP.out.here HKL.out (by rw [HGE.out,HID.out];exact hc));clear hc;go_wp2_with fail
     go_quiet (fail)
     go_wp2_with (at_builtin;(refine ac_ rq_ _ _ _ _ rq_ iE _ 6 80 Tryz.underlying25 HIE.out.1 HIE.out.2.1 HIE.out.2.2.1 HIE.out.2.2.2 rfl dq_ dq_ (w.heap.size+1) (.slice oa (O).length oc) (O).length ((O).flatMap EntV.enc) [.int .i64 xid,.bool xfm,.int .i64 xrk,.slice q1 xs.cls.length p1,.int .i64 xs.len,.slice q2 xs.ext.length p2] rfl rq_ (b0_ HO.out xE) _ 1 rq_ (am_ (Bxx.new _ #[.int .i64 xid,.bool xfm,.int .i64 xrk,.slice q1 xs.cls.length p1,.int .i64 xs.len,.slice q2 xs.ext.length p2] 57)) HX1.out tq_ tq_ ?_);intro v' w9 hown9 hgrow9 hloc9;obtain ⟨na9,nc9,rfl⟩:=a9_ hown9;have HB9:=hq_ ((Et HB.out xE).grown hgrow9 tq_ fun q e=>by have:=(HO.out.lt q e).1;omega);have HBX9:=hq_ ((HBX.out.below xE).grown hgrow9 (fun e=>by have:=(HO.out.lt _ e.symm).1;omega));have HO9:=hq_ hown9;clear hown9 hgrow9 hloc9;have f0:=Ext.cell HB9.out HE0.out;have z0:=(HBX9.out.cells 0).1;have hz9:=HB9.out.size)
     go_quiet (fail)
     go_wp2_with fail
     go_roundw
     case rel=>exact ⟨k+1,true,O ++ [X],HLT.out,by go_num,rfl,hq_ (by rw [List.map_append,List.map_cons,List.map_nil,HXE.out];exact HPN.out),hq_ (b0_ (by have h:=HO9.out;rw [List.flatMap_append,List.flatMap_cons,List.flatMap_nil,List.append_nil,HXN.out];simpa using h) xE),hq_ (fun z hz=>by rcases List.mem_append.1 hz with hz|hz;exact HM.out z hz;exact .inr (List.mem_singleton.1 hz)),hq_ (Et HB9.out xE),hq_ (HBX9.out.below xE)⟩
     case measure=>have:=HLT.out;simp [intOf];omega
    ·have hge:xid≤y.id:=oq_;have hne:(y.id != xid)=true:=by simp;omega
     have hne2:¬ y.id=xid:=oq_;have HPN:=hq_ (HP.out.past HKL.out (by rw [HGE.out,HID.out];exact hc));go_wp2_with fail
     go_quiet (fail)
     go_wp2_with (at_builtin;(refine ac_ rq_ _ _ _ _ rq_ iE _ 6 80 Tryz.underlying25 HIE.out.1 HIE.out.2.1 HIE.out.2.2.1 HIE.out.2.2.2 rfl dq_ dq_ (w.heap.size+1) (.slice oa (O).length oc) (O).length ((O).flatMap EntV.enc) [.int .i64 xid,.bool xfm,.int .i64 xrk,.slice q1 xs.cls.length p1,.int .i64 xs.len,.slice q2 xs.ext.length p2] rfl rq_ (b0_ HO.out xE) _ 1 rq_ (am_ (Bxx.new _ #[.int .i64 xid,.bool xfm,.int .i64 xrk,.slice q1 xs.cls.length p1,.int .i64 xs.len,.slice q2 xs.ext.length p2] 57)) HX1.out tq_ tq_ ?_);intro v' w9 hown9 hgrow9 hloc9;obtain ⟨na9,nc9,rfl⟩:=a9_ hown9;have HB9:=hq_ ((Et HB.out xE).grown hgrow9 tq_ fun q e=>by have:=(HO.out.lt q e).1;omega);have HBX9:=hq_ ((HBX.out.below xE).grown hgrow9 (fun e=>by have:=(HO.out.lt _ e.symm).1;omega));have HO9:=hq_ hown9;clear hown9 hgrow9 hloc9;have HO9:=hq_ (show w9.ownsRow (w.heap.size+1) 57 6 (.slice na9 (O.length+1) nc9) (O.length+1) ((O ++ [X]).flatMap EntV.enc) from by rw [List.flatMap_append,List.flatMap_cons,List.flatMap_nil,List.append_nil,HXN.out];exact HO9.out);have f0:=Ext.cell HB9.out HE0.out;have f1:=Ext.cell HB9.out HE1.out;have f2:=Ext.cell HB9.out HE2.out;have f3:=Ext.cell HB9.out HE3.out;have f4:=Ext.cell HB9.out HE4.out;have f5:=Ext.cell HB9.out HE5.out;have z0:=(HBX9.out.cells 0).1;have hz9:=HB9.out.size;have hox9:(O ++ [X]).length=O.length+1:=sq_)
     go_quiet (fail)
     go_wp2_with (at_builtin;(refine ac_ rq_ _ _ _ _ rq_ iE _ 6 80 Tryz.underlying25 HIE.out.1 HIE.out.2.1 HIE.out.2.2.1 HIE.out.2.2.2 rfl dq_ dq_ (w.heap.size+1) (.slice na9 (O.length+1) nc9) (O.length+1) ((O ++ [X]).flatMap EntV.enc) [.int .i64 y.id,.bool y.firm,.int .i64 y.rank,.slice x1 y.s.cls.length d1,.int .i64 y.s.len,.slice x2 y.s.ext.length d2] rfl rq_ (b0_ HO9.out xE) _ 1 rq_ (am_ (Bxx.new _ #[.int .i64 y.id,.bool y.firm,.int .i64 y.rank,.slice x1 y.s.cls.length d1,.int .i64 y.s.len,.slice x2 y.s.ext.length d2] 57)) HY1.out tq_ tq_ ?_);intro v' w8 hown8 hgrow8 hloc8;obtain ⟨na8,nc8,rfl⟩:=a9_ hown8;have HB8:=hq_ ((Et HB9.out xE).grown hgrow8 tq_ fun q e=>by have:=(HO9.out.lt q e).1;omega);have HBX8:=hq_ ((HBX9.out.below xE).grown hgrow8 (fun e=>by have:=(HO9.out.lt _ e.symm).1;omega));have HO8:=hq_ hown8;clear hown8 hgrow8 hloc8)
     go_roundw
     case rel=>exact ⟨k+1,true,O ++ [X] ++ [y],HLT.out,by go_num,rfl,hq_ (by rw [List.map_append,List.map_append,List.map_cons,List.map_nil,List.map_cons,List.map_nil,HXE.out,<- HGE.out];exact HPN.out),hq_ (b0_ (by have h:=HO8.out;rw [List.flatMap_append,List.flatMap_cons,List.flatMap_nil,List.append_nil,HYN.out];simpa using h) xE),hq_ (fun z hz=>by rcases List.mem_append.1 hz with hz|hz;(rcases List.mem_append.1 hz with hz|hz;exact HM.out z hz;exact .inr (List.mem_singleton.1 hz));exact .inl (by rw [List.mem_singleton.1 hz];exact HYM.out)),hq_ (Et HB8.out xE),hq_ (HBX8.out.below xE)⟩
     case measure=>have:=HLT.out;simp [intOf];omega
  ·obtain rfl:k=L.length:=oq_;have hkI:¬ (L.length:Int)<L.length:=oq_;have hlm:(L.map EntV.ent).length=L.length:=List.length_map _;have HFIN:Hid (∀ (W:World) (u:Value) (M:List EntV),M.map EntV.ent=putD (L.map EntV.ent) xe->W.ownsRow (w.heap.size+1) 57 6 u M.length (M.flatMap EntV.enc)->(∀ y∈M,y∈L∨y=X)->M.length≤10000->Below w.heap.size w W->nv_ F G (L.map EntV.ent) xe w (.returned (.tuple #[u,.int .i64 0])) W):=hq_ fun W u M h1 h2 h3 h4 h5=>
    ⟨u,M,rfl,h1,⟨(m6_ h2).mono fun b hb=>.inr (.inr oq_),oq_,fun y hy=>by
     rcases h3 y hy with hy|rfl
     ·exact a4_.mono ((HD.out.all y hy).ext h5) fun b hb=>.inl hb
     ·rw [HXX.out];exact a4_.mono (HXR.out.ext h5) fun b hb=>.inr (.inl hb)⟩,h5⟩
   have z0:=(HBX.out.cells 0).1;have z1:=(HBX.out.cells 1).1;have z2:=(HBX.out.cells 2).1;have z3:=(HBX.out.cells 3).1;have z4:=(HBX.out.cells 4).1;have z5:=(HBX.out.cells 5).1;cases done with
   | true=>
    have h4:¬ (4096:Int)<O.length:=oq_;go_wp2_with fail
    go_ret2;exact HFIN.out _ _ O (by have h:=HP.out;rw [<- hlm] at h;exact h.end1) HO.out HM.out oq_ HB.out
   | false=>
    have h4:¬ (4096:Int)<(O.length:Int)+1:=oq_;go_wp2_with (at_builtin;(refine ac_ rq_ _ _ _ _ rq_ iE _ 6 80 Tryz.underlying25 HIE.out.1 HIE.out.2.1 HIE.out.2.2.1 HIE.out.2.2.2 rfl dq_ dq_ (w.heap.size+1) (.slice oa (O).length oc) (O).length ((O).flatMap EntV.enc) [.int .i64 xid,.bool xfm,.int .i64 xrk,.slice q1 xs.cls.length p1,.int .i64 xs.len,.slice q2 xs.ext.length p2] rfl rq_ (b0_ HO.out xE) _ 1 rq_ (am_ (Bxx.new _ #[.int .i64 xid,.bool xfm,.int .i64 xrk,.slice q1 xs.cls.length p1,.int .i64 xs.len,.slice q2 xs.ext.length p2] 57)) HX1.out tq_ tq_ ?_);intro v' w9 hown9 hgrow9 hloc9;obtain ⟨na9,nc9,rfl⟩:=a9_ hown9;have HB9:=hq_ ((Et HB.out xE).grown hgrow9 tq_ fun q e=>by have:=(HO.out.lt q e).1;omega);have HBX9:=hq_ ((HBX.out.below xE).grown hgrow9 (fun e=>by have:=(HO.out.lt _ e.symm).1;omega));have HO9:=hq_ hown9;clear hown9 hgrow9 hloc9)
    go_ret2;exact HFIN.out _ _ (O ++ [X]) (by have h:=HP.out;rw [<- hlm] at h;rw [List.map_append,List.map_cons,List.map_nil,HXE.out];exact h.end0) (by have h:=HO9.out;rw [List.flatMap_append,List.flatMap_cons,List.flatMap_nil,List.append_nil,HXN.out];simpa using h) (fun z hz=>by rcases List.mem_append.1 hz with hz|hz;exact HM.out z hz;exact .inr (List.mem_singleton.1 hz)) tq_ HB9.out
theorem vq_ {b:Nat} {t:TypeId} (h:Bxx W b #[.int .i64 30,.int .i64 60,.int .i64 90,.int .i64 600,.int .i64 1440,.int .i64 1500,.int .i64 3000,.int .i64 10080] t) (x:Int) (hx:0≤x):W.cell? ⟨b,(x % 8).toNat,none⟩=some (.int .i64 (lenF x)):=by
 rw [(h.cells _).1];unfold lenF;have hk:(x % 8).toNat<8:=oq_;generalize (x % 8).toNat=k at *
 match k,hk with
 | 0,_=>rfl
 | 1,_=>rfl
 | 2,_=>rfl
 | 3,_=>rfl
 | 4,_=>rfl
 | 5,_=>rfl
 | 6,_=>rfl
 | 7,_=>rfl
theorem ko_ {b o:Nat} {ll:List (List Int)} (h:c4_ w (.slice (some ⟨b,o,none⟩) ll.length c) ll) (hi:i+n≤ll.length) {o' c':Nat} (ho:n=0∨o'=o+i):c4_ w (.slice (some ⟨b,o',none⟩) n c') ((ll.drop i).take n):=by
 obtain ⟨⟨a,c2,he,h1⟩,h2⟩:=h;injection he with e1 _ e2
 have hl:((ll.drop i).take n).length=n:=by rw [List.length_take,List.length_drop];omega
 refine ⟨⟨_,c',by rw [hl],?_⟩,by rw [hl];omega⟩;by_cases h0:n=0
 ·left;exact List.eq_nil_of_length_eq_zero (by rw [hl];exact h0)
 ·obtain rfl:o'=o+i:=ho.resolve_left h0;rcases h1 with h1|⟨b2,o2,e,hc⟩
  ·rw [h1] at hi;simp at hi;omega
  ·rw [<- e1] at e;injection e with e
   injection e with e3 e4
   subst e3;subst e4;refine .inr ⟨_,_,rfl,fun j hj=>?_⟩;rw [hl] at hj;obtain ⟨u,g1,g2⟩:=hc (i+j) oq_;refine ⟨u,by rw [Nat.add_assoc];exact g1,?_⟩;have e:((ll.drop i).take n).getD j []=ll.getD (i+j) []:=by
    rw [List.getD_eq_getElem?_getD,List.getD_eq_getElem?_getD,List.getElem?_take_of_lt hj,List.getElem?_drop]
   rw [e];exact g2
theorem uj_ (ll:List (List Int)) (hk:k<ll.length):(ll.drop k).take ((min ((k:Int)+2) ll.length).toNat-k)=(ll.drop k).take 2:=by
 by_cases h:k+2≤ll.length
 ·rw [show (min ((k:Int)+2) ll.length).toNat-k=2 by omega]
 ·have hl:(ll.drop k).length=1:=by rw [List.length_drop];omega
  rw [List.take_of_length_le (by rw [hl];omega),List.take_of_length_le (by rw [hl];omega)]
theorem ph_ (B:Nat) (lv:Value) (l:List Inst) (x:Inst) (w:World) (h:ExtL w (fun b=>B≤b) lv l) (hx:InIn x) (hl:l.length≤1000) (hB:B≤w.heap.size) :
  Calls Tryz.prog 109 #[lv,ival x] w fun e w'=>∃ a c,e=.returned (.slice a (insI l x).length c)∧ExtL w' (fun b=>B≤b) (.slice a (insI l x).length c) (insI l x)∧Below w.heap.size w w':=
 (pg_ _ lv l x w h hx hl).mono fun e w' ⟨hb,v',he,hc⟩=>by
  subst he;rcases hc with ⟨hm,rfl⟩|⟨hm,ho⟩
  ·have e1:insI l x=l:=by unfold insI;rw [if_pos hm]
   obtain ⟨a,c,rfl⟩:=h.form;rw [e1];exact ⟨a,c,rfl,h.ext hb,hb⟩
  ·have e1:insI l x=putI l x:=by unfold insI;rw [if_neg hm]
   obtain ⟨a,c,rfl,_⟩:=ho.form;rw [e1];exact ⟨a,c,rfl,ho.extL.mono fun b hb'=>by have:=hb'.1;omega,hb⟩
def us_ (ll:List (List Int)) (ml:List Int) (LN:Int) (w W1 W:World):Prop:=∃ (v:Value) (M:List ClsV),M.map ClsV.cls=clsF ll ml (min 3 (min ml.length ll.length))∧OwnC (w.heap.size+4) (fun _=>False) W v M∧Bxx W (w.heap.size+1+1+1) #[v,.int .i64 LN,.slice none 0 0] 55∧W1.grownBy W (some (w.heap.size+1+1+1))
theorem pl_ (x:RawV) (ll:List (List Int)) (ml el:List Int) (w:World) (h:RawR w x ll ml el) :
  Calls Tryz.prog 64 #[x.val] w (ns_ (j6_ ll ml x.ln el) w):=by
 have HR:=hq_ h;obtain ⟨hd,⟨da,dc,hde,hdl,hdc⟩,hm,l0,l1,he⟩:=h;obtain ⟨⟨ma,mc,hme,_⟩,hml,hmr⟩:=hm;obtain ⟨⟨ea,ec,hee,_⟩,hel,her⟩:=he;obtain ⟨dv,mv,ln,ev⟩:=x;dsimp only at hde hme hee l0 l1;subst hde;subst hme;subst hee;have HMR:=hq_ hmr;have HER:=hq_ her;obtain ⟨LN,hLN⟩:∃ LN,lenF ln=LN:=⟨_,rfl⟩;have HLN:=hq_ hLN;have hlb:=rf_ ln;rw [hLN] at hlb;obtain ⟨lb1,lb2⟩:=hlb;have hT:Bxx (((w.alloc (.cells #[.slice da ll.length dc,.slice ma ml.length mc,.int .u8 ln,.slice ea el.length ec] 49)).alloc (.cells #[.slice none 0 0,.int .i64 0,.slice none 0 0] 55)).alloc (.cells #[.int .i64 30,.int .i64 60,.int .i64 90,.int .i64 600,.int .i64 1440,.int .i64 1500,.int .i64 3000,.int .i64 10080] 3)) (w.heap.size+1+1) #[.int .i64 30,.int .i64 60,.int .i64 90,.int .i64 600,.int .i64 1440,.int .i64 1500,.int .i64 3000,.int .i64 10080] 3:=Bxx.at sq_;have q:=vq_ hT ln l0;rw [hLN] at q;obtain ⟨r,hr⟩:∃ r,ln % 8=r:=⟨_,rfl⟩;have hrb:0≤r∧r<8:=oq_;obtain ⟨r1,r2⟩:=hrb;have htm:ln.tmod 8=r:=by rw [Int.tmod_eq_emod_of_nonneg l0];exact hr
 rw [hr] at q;clear hT hLN hd hmr her;show Calls _ _ #[.agg #[.slice da ll.length dc,.slice ma ml.length mc,.int .u8 ln,.slice ea el.length ec]] _ _
 go_enter Tryz.func64,Tryz.ntmps64
 go_upto_block 0 with (fail)
 refine bf_ (F:=fun U=>Bxx U w.heap.size #[.slice da ll.length dc,.slice ma ml.length mc,.int .u8 ln,.slice ea el.length ec] 49∧Bxx U (w.heap.size+1) #[.slice none 0 0,.int .i64 0,.slice none 0 0] 55∧Bxx U (w.heap.size+1+1+1) #[.slice none 0 0,.int .i64 LN,.slice none 0 0] 55∧U.heap.size=w.heap.size+4∧Below w.heap.size w U) ⟨xB,xB,xB,sq_,xE⟩ ?_;rintro W1 ⟨hc0,hc1,hco,hs1,hcb⟩;have K0:=hq_ hc0;have K1:=hq_ hc1;have KO:=hq_ hco;have KB:=hq_ hcb;have HS1:=hq_ hs1;clear q r1 r2 htm hr hc0 hc1 hco hs1 hcb
 go_cut [] (fun wx=>Hid (us_ ll ml LN w W1 wx))
 case first=>
  go_wp2_with fail
  go_loopw [4,5,6] (fun mv iv _ wr=>∃ (k:Nat) (v:Value) (M:List ClsV) (mn:Int),k≤3∧k≤ml.length∧k≤ll.length∧iv=.int .i64 k∧mv=.int .i64 mn∧Hid (minF ml k=mn)∧Hid (M.map ClsV.cls=clsF ll ml k)∧M.length≤k∧Hid (OwnC (w.heap.size+4) (fun _=>False) wr v M)∧Hid (Bxx wr (w.heap.size+1+1+1) #[v,.int .i64 LN,.slice none 0 0] 55)∧Hid (W1.grownBy wr (some (w.heap.size+1+1+1)))) (fun _ iv _ _=>3-(intOf iv).toNat)
  case atStart=>exact ⟨0,.slice none 0 0,[],-1500,oq_,oq_,oq_,rfl,rfl,hq_ rfl,hq_ rfl,sq_,hq_ OwnG.nil,KO,hq_ ⟨rfl,rfl,rfl,Nat.le_refl _,fun _ _ _=>rfl⟩⟩
  case round=>
   obtain ⟨k,v,M,mn,hk3,hkm,hkl,rfl,rfl,HMN,HM,hMl,HV,HBO,HG⟩:=hrel;obtain ⟨wk,hwk⟩:∃ x,x=wr:=⟨_,rfl⟩;subst hwk;obtain ⟨va,vc,rfl,-⟩:=HV.out.form;have hgz:=HG.out.size;have hs14:=HS1.out;have HBK:Hid (Below w.heap.size w wk):=hq_ (KB.out.grown HG.out KB.out.size fun q e=>by injection e with e;omega);have hkz:=HBK.out.size;have hr0:Bxx wk w.heap.size #[.slice da ll.length dc,.slice ma ml.length mc,.int .u8 ln,.slice ea el.length ec] 49:=(HG.out.block _ oq_ (by intro e;injection e with e;omega)).trans K0.out;have x0:=(hr0.cells 0).1;have x1:=(hr0.cells 1).1;have x3:=(hr0.cells 3).1;have HR0:=hq_ hr0;have hmb:=m1_ HMR.out k;rw [HMN.out] at hmb;obtain ⟨mb1,mb2,-⟩:=hmb;have mb2:mn≤9978:=oq_;clear hr0;have LEAVE:Hid (¬ (k<ml.length∧k<3∧k<ll.length)->k=min 3 (min ml.length ll.length)):=hq_ oq_;by_cases hA:k<ml.length∧k<3∧k<ll.length
   ·obtain ⟨c1,c2,c3⟩:=hA;have c1I:(k:Int)<ml.length:=oq_;have c2I:(k:Int)<3:=oq_;have c3I:(k:Int)<ll.length:=oq_;obtain ⟨⟨a',cc',he',hcl⟩,_,_⟩:=HR.out.mins.ext HBK.out;injection he' with e1 _ e2
    subst e1;subst e2;rcases hcl with hcl|⟨b8,f8,rfl,hcl⟩
    ·rw [hcl] at c1;simp at c1
    have z0:=hcl k c1;have hyr:=HMR.out _ (a8_ (d:=0) c1);have HNM:Hid (minF ml (k+1)=mn+1+15*ml.getD k 0):=hq_ (by show minF ml k+1+15*ml.getD k 0=_;rw [HMN.out]);have HCN:Hid (clsF ll ml (k+1)=clsF ll ml k ++ if minF ml (k+1)≤4320 then [⟨dn_ ((ll.drop k).take 2),minF ml (k+1)⟩] else []):=hq_ rfl;obtain ⟨y,hy⟩:∃ y,ml.getD k 0=y:=⟨_,rfl⟩;rw [hy] at z0 hyr HNM;rw [HNM.out] at HCN;obtain ⟨y1,y2⟩:=hyr;have hdays:=HR.out.days.ext HBK.out;obtain ⟨b9,f9,rfl⟩:∃ b o,da=some ⟨b,o,none⟩:=by
     obtain ⟨⟨a',cc',he',hcl⟩,_⟩:=hdays;injection he' with e1 _ e2
     rcases hcl with hcl|⟨b,o,e,_⟩
     ·rw [hcl] at c3;simp at c3
     ·exact ⟨b,o,e1.trans e⟩
    have HDY:=hq_ (fun W (hb:Below w.heap.size w W)=>HR.out.days.ext hb);clear hcl hy hdays;obtain ⟨D,hD⟩:∃ D,dn_ ((ll.drop k).take 2)=D:=⟨_,rfl⟩;have HDM:=hq_ (ft_ ((ll.drop k).take 2));have HMD:=hq_ (fun W (hb:Below w.heap.size w W)=>sr_ (.slice (some ⟨b9,f9+k,none⟩) ((min ((k:Int)+2) ll.length).toNat-k) (dc-k)) ((ll.drop k).take 2) W (by have h1:=ko_ (i:=k) (n:=(min ((k:Int)+2) ll.length).toNat-k) (o':=f9+k) (c':=dc-k) (HDY.out W hb) oq_ (.inr rfl);rw [uj_ ll c3] at h1;exact h1));rw [hD] at HMD HDM HCN;clear hD;by_cases hle:mn+1+15*y≤4320
    ·rw [if_pos hle] at HCN;obtain ⟨iC,iC1,iC2,iC3,iC4⟩:=o0_;have HIC:=hq_ (And.intro iC1 (And.intro iC2 (And.intro iC3 iC4)));clear iC1 iC2 iC3 iC4;go_wp2_with (first|(go_at_call 108;(refine (HMD.out _ HBK.out).mono ?_;rintro e w5 ⟨a5,c5,rfl,hmx,hmd,hb5⟩;have HMX:=hq_ hmx;have HB5:=hq_ hb5;have hz5:=hb5.size;have ho5:=HBO.out.below hb5;have o5:=ho5.cells 0;have o6:=((ho5.alloc (.cells #[.slice a5 D.length c5] 128)).cells 0);have o7:=(((ho5.alloc (.cells #[.slice a5 D.length c5] 128)).alloc (.cells #[.slice a5 D.length c5,.int .i64 (mn+1+15*y)] 130)).cells 0);have HO5:=hq_ ho5;clear hmx hmd hb5 ho5))|(at_builtin;(refine ac_ rq_ _ _ _ _ rq_ iC _ 2 32 Tryz.underlying52 HIC.out.1 HIC.out.2.1 HIC.out.2.2.1 HIC.out.2.2.2 rfl dq_ dq_ (w.heap.size+4) (.slice va M.length vc) M.length (M.flatMap ClsV.enc) (ClsV.enc ⟨.slice a5 D.length c5,D,mn+1+15*y⟩) rfl rq_ (HV.out.below ap_ (Ea (Ea HB5.out (.cells #[.slice a5 D.length c5] 128)) (.cells #[.slice a5 D.length c5,.int .i64 (mn+1+15*y)] 130))).row (w5.heap.size+1) 1 rq_ (am_ (Bxx.at (w:=w5.alloc (.cells #[.slice a5 D.length c5] 128)) (c:=#[.slice a5 D.length c5,.int .i64 (mn+1+15*y)]) (t:=130) sq_)) (by simp [ClsV.enc,Value.oneCell']) oq_ tq_ ?_);intro v' w9 hown9 hgrow9 hloc9;obtain ⟨na,nc,rfl⟩:=a9_ hown9;have hne9:∀ q,(Value.slice va M.length vc).ownBlock=some q->w.heap.size+4≤q:=fun q e=>(HV.out.row.lt q e).1;have d2:=(((HO5.out.alloc (.cells #[.slice a5 D.length c5] 128)).alloc (.cells #[.slice a5 D.length c5,.int .i64 (mn+1+15*y)] 130)).grown hgrow9 (fun e=>by have:=hne9 _ e.symm;omega));have g2:=d2.cells 0;have HD2:=hq_ d2;have HV9:=hq_ (OwnG.push (y:=⟨.slice a5 D.length c5,D,mn+1+15*y⟩) ap_ (HV.out.below ap_ (Ea (Ea HB5.out (.cells #[.slice a5 D.length c5] 128)) (.cells #[.slice a5 D.length c5,.int .i64 (mn+1+15*y)] 130))) ⟨(HMX.out.ext (Ea (Ea (Er _) _) _)).mono fun q hq=>⟨oq_,fun h=>h,fun e=>by have:=(HV.out.row.lt q e).2;omega⟩,by show InI (mn+1+15*y);exact ⟨oq_,oq_⟩⟩ hown9 hgrow9 hloc9 (fun h=>h) oq_);have HG9:=hq_ hgrow9;have HNE:=hq_ hne9;clear hown9 hgrow9 hloc9 d2 hne9))
     go_roundw
     case rel=>
      have hgs:World.grownBy w9 (w9.setCell ⟨w.heap.size+1+1+1,0,none⟩ (.slice na (M.length+1) nc)) (some (w.heap.size+1+1+1)):=World.grownBy.set' ⟨rfl,rfl,rfl,Nat.le_refl _,fun _ _ _=>rfl⟩ _;have hgall:W1.grownBy w9 (some (w.heap.size+1+1+1)):=by
       have h1:W1.grownBy ((w5.alloc (.cells #[.slice a5 D.length c5] 128)).alloc (.cells #[.slice a5 D.length c5,.int .i64 (mn+1+15*y)] 130)) (some (w.heap.size+1+1+1)):=World.grownBy.trans' HG.out (World.grownBy.of_below (Ea (Ea HB5.out _) _) _);exact ⟨HG9.out.os.trans h1.os,HG9.out.tape.trans h1.tape,HG9.out.output.trans h1.output,Nat.le_trans h1.size HG9.out.size,fun q hq hne=>(HG9.out.block q (Nat.lt_of_lt_of_le hq h1.size) (fun e=>by have:=HNE.out q e.symm;omega)).trans (h1.block q hq hne)⟩
      exact ⟨k+1,.slice na (M.length+1) nc,M ++ [⟨.slice a5 D.length c5,D,mn+1+15*y⟩],mn+1+15*y,oq_,oq_,oq_,by go_num,rfl,HNM,hq_ (by rw [List.map_append,HM.out,HCN.out];rfl),tq_,hq_ (HV9.out.low ap_ hgs oq_),hq_ (a0_ 0 _ HD2.out),hq_ (World.grownBy.trans' hgall hgs)⟩
     case measure=>simp [intOf];omega
    ·rw [if_neg hle,List.append_nil] at HCN;go_wp2_with (go_at_call 108;(refine (HMD.out _ HBK.out).mono ?_;rintro e w5 ⟨a5,c5,rfl,hmx,hmd,hb5⟩;have HB5:=hq_ hb5;clear hmx hmd hb5))
     go_roundw
     case rel=>exact ⟨k+1,.slice va M.length vc,M,mn+1+15*y,oq_,oq_,oq_,by go_num,rfl,HNM,hq_ (by rw [HM.out,HCN.out]),oq_,hq_ (HV.out.below ap_ (Ea HB5.out _)),hq_ ((HBO.out.below HB5.out).alloc _),hq_ (World.grownBy.trans' HG.out (World.grownBy.of_below (Ea HB5.out _) _))⟩
     case measure=>simp [intOf];omega
   ·have HEND:Hid (us_ ll ml LN w W1 wk):=hq_ ⟨_,M,by rw [HM.out,LEAVE.out hA],HV.out,HBO.out,HG.out⟩;by_cases c1:k<ml.length
    ·have c1I:(k:Int)<ml.length:=oq_;by_cases c2:k<3
     ·have c2I:(k:Int)<3:=oq_;have c3I:¬ (k:Int)<ll.length:=oq_;go_wp2_with fail
      go_meet
      exact HEND
     ·have c2I:¬ (k:Int)<3:=oq_;go_wp2_with fail
      go_meet
      exact HEND
    ·have c1I:¬ (k:Int)<ml.length:=oq_;go_wp2_with fail
     go_meet
     exact HEND
 case rest=>
  obtain ⟨v,M,hM,hV,hO,hG⟩:=hcut.out;obtain ⟨va,vc,rfl,-⟩:=hV.form;have HM:=hq_ hM;have HV0:=hq_ hV;have HO0:=hq_ hO;have HG0:=hq_ hG;have hs14:=HS1.out;clear hcut hM hV hO hG;go_wp2_with fail
  go_loopw [7,8] (fun iv _ wr=>∃ (k:Nat) (xv:Value) (xl:List Inst),k≤4∧k≤el.length∧iv=.int .i64 k∧xl.length≤k∧Hid (xl=extF (el.take k))∧Hid (ExtL wr (fun b=>w.heap.size+4≤b) xv xl)∧Hid (OwnC (w.heap.size+4) (fun _=>False) wr (.slice va M.length vc) M)∧Hid (Bxx wr (w.heap.size+1+1+1) #[.slice va M.length vc,.int .i64 LN,xv] 55)∧Hid (W1.grownBy wr (some (w.heap.size+1+1+1)))) (fun iv _ _=>4-(intOf iv).toNat)
  case atStart=>exact ⟨0,.slice none 0 0,[],oq_,oq_,rfl,sq_,hq_ rfl,hq_ ⟨⟨none,0,rfl,sq_,oq_,.inl rfl⟩,sq_,sq_⟩,HV0,HO0,HG0⟩
  case round=>
   obtain ⟨k,xv,xl,hk4,hke,rfl,hxk,HXL,HX,HV,HBO,HG⟩:=hrel;obtain ⟨wk,hwk⟩:∃ x,x=wr:=⟨_,rfl⟩;subst hwk;obtain ⟨xa,xc,rfl⟩:=HX.out.form;have hgz:=HG.out.size;have HBK:Hid (Below w.heap.size w wk):=hq_ (KB.out.grown HG.out KB.out.size fun q e=>by injection e with e;omega);have hkz:=HBK.out.size;have hr0:Bxx wk w.heap.size #[.slice da ll.length dc,.slice ma ml.length mc,.int .u8 ln,.slice ea el.length ec] 49:=(HG.out.block _ oq_ (by intro e;injection e with e;omega)).trans K0.out;have x3:=(hr0.cells 3).1;clear hr0;by_cases hA:k<el.length∧k<4
   ·obtain ⟨c1,c2⟩:=hA;have c1I:(k:Int)<el.length:=oq_;have c2I:(k:Int)<4:=oq_;obtain ⟨⟨a',cc',he',hcl⟩,_,_⟩:=HR.out.ext.ext HBK.out;injection he' with e1 _ e2
    subst e1;subst e2;rcases hcl with hcl|⟨b8,f8,rfl,hcl⟩
    ·rw [hcl] at c1;simp at c1
    have z0:=hcl k c1;have hyr:=HER.out _ (a8_ (d:=0) c1);have HTK:Hid (el.take (k+1)=el.take k ++ [el.getD k 0]):=hq_ (by rw [List.take_succ_eq_append_getElem c1,List.getD_eq_getElem?_getD,List.getElem?_eq_getElem c1];rfl);obtain ⟨y,hy⟩:∃ y,el.getD k 0=y:=⟨_,rfl⟩;rw [hy] at z0 hyr HTK;clear hcl hy;obtain ⟨y1,y2⟩:=hyr;obtain ⟨d,hd⟩:∃ d,y % 7=d:=⟨_,rfl⟩;obtain ⟨q,hq⟩:∃ q,y / 5760=q:=⟨_,rfl⟩;obtain ⟨m5,hm5⟩:∃ m,y % 5760=m:=⟨_,rfl⟩;obtain ⟨fr,hfr⟩:∃ fr,15*m5-2880=fr:=⟨_,rfl⟩;have htd:y.tmod 7=d:=by rw [Int.tmod_eq_emod_of_nonneg y1];exact hd
    have htq:y.tdiv 5760=q:=by rw [Int.tdiv_eq_ediv_of_nonneg y1];exact hq
    have htm:y.tmod 5760=m5:=by rw [Int.tmod_eq_emod_of_nonneg y1];exact hm5
    have hdb:0≤d∧d<7:=oq_;have hqb:0≤q∧q≤11:=oq_;have hmb:0≤m5∧m5<5760:=oq_;have hfb:-2880≤fr∧fr≤83505:=oq_;obtain ⟨d1,d2⟩:=hdb;obtain ⟨q1,q2⟩:=hqb;obtain ⟨m1,m2⟩:=hmb;obtain ⟨fr1,fr2⟩:=hfb;have HXE:Hid (extI y=⟨d,fr,fr+15*(1+q*7)⟩):=hq_ (by unfold extI;rw [hd,hq,hm5,hfr]);obtain ⟨XL,hXL⟩:∃ XL,insI xl ⟨d,fr,fr+15*(1+q*7)⟩=XL:=⟨_,rfl⟩;have HXX:=hq_ hXL;have hlx:XL.length≤k+1:=by rw [<- hXL];have:=lu_ (l:=xl) (x:=⟨d,fr,fr+15*(1+q*7)⟩);omega
    have HIN:=hq_ (fun W (hb:Below wk.heap.size wk W)=>ph_ (w.heap.size+4) (.slice xa xl.length xc) xl ⟨d,fr,fr+15*(1+q*7)⟩ W (HX.out.ext hb) ⟨by constructor <;> (show _≤_;simp only;omega),by constructor <;> (show _≤_;simp only;omega),by constructor <;> (show _≤_;simp only;omega)⟩ oq_ (by have:=hb.size;omega));rw [hXL] at HIN;have o2:=(HBO.out.cells 2).1;have HFR:=hq_ hfr;clear hd hq hm5 hXL;go_upto_region 14 with (fail)
    refine bj_ (w0:=wk) [0,1,2,3,4,5,6,7,8,9,10,11,12,13,14,15,16,17,18,19,20,21,22,23,24,25] [26] [85,86,87,88,89,90,91,92,93,94,95,96,97,98,99,100,101,102,103,104,105,106,107,108,109,110] [.pointer (some ⟨w.heap.size+1+1+1,2,none⟩),.slice xa xl.length xc,.pointer (some ⟨w.heap.size,3,none⟩),.slice (some ⟨b8,f8,none⟩) el.length ec,.int .i64 k,.pointer (some ⟨b8,f8+k,none⟩),.int .u16 y,.int .i64 y,.int .i64 d,.int .i64 fr,.int .i64 fr,.pointer (some ⟨w.heap.size,3,none⟩),.slice (some ⟨b8,f8,none⟩) el.length ec,.int .i64 k,.pointer (some ⟨b8,f8+k,none⟩),.int .u16 y,.int .i64 y,.int .i64 q,.int .i64 (q*7),.int .i64 (1+q*7),.int .i64 (15*(1+q*7)),.int .i64 (fr+15*(1+q*7)),.agg #[.int .i64 fr,.int .i64 (fr+15*(1+q*7))],.agg #[.int .i64 d,.int .i64 fr,.int .i64 (fr+15*(1+q*7))],undef,.pointer (some ⟨w.heap.size+1+1+1,2,none⟩)] [[],[0],[],[2],[],[3,4],[5],[6],[7],[],[],[],[11],[],[12,13],[14],[15],[16],[17],[18],[19],[10,20],[9,21],[8,22],[1,23],[]] [] [24] (fun i v lo hi W=>match i with|24=>∃ a c,v 24=.slice a XL.length c∧ExtL W (fun b=>w.heap.size+4≤b) (v 24) XL|_=>True) (.a o2 (.a x3 (.z z0))) ?steps14 ?fin14 (stab:=?stab14)
    case stab14=>
     refine ⟨?_,trivial⟩
     ·intro v lo hi W W' h hb;exact (let ⟨a,c,e,h⟩:=h;⟨a,c,e,h.ext hb⟩)
    case steps14=>
     repeat' first|exact .n|refine .d ?_ ?_|fail
     all_goals try exact stw
     ·rintro v lo hi W hb ⟨g0,g1,g2⟩ _;refine .inl ⟨rfl,fun K hK=>?_⟩;simp only [ov,vat,Nat.reduceBEq,cond_true,cond_false];go_wp2_with (go_at_call 109;(with_reducible refine (HIN.out _ hb).mono ?_);rintro e w9 ⟨a9,c9,rfl,ho9,hb9⟩)
      exact acx (hK (.slice a9 XL.length c9) w9 hb9 ⟨a9,c9,rfl,ho9⟩) (by simp [ov,vat,upd])
    case fin14=>
     rintro v lo hi W6 hb6 ⟨g0,g1,g2⟩ hf hap;show wpList _ _ _ [_] _ _;obtain ⟨-,-,-,a9,c9,e24,hx9⟩:=hf 24 rfl;have e25:v 25=.pointer (some ⟨w.heap.size+1+1+1,2,none⟩):=(hf 25 rfl).2.2.2;clear hf hap
     (try dsimp only)
     rw [e24,e25];rw [e24] at hx9;have ho6:=HBO.out.below hb6;have o6:=ho6.cells 2;have HO6:=hq_ ho6;have HX9:=hq_ hx9;have HB6:=hq_ hb6;have hz6:=hb6.size;clear g0 g1 g2 o2 x3 z0 hb6 ho6 hx9 e24 e25;generalize v 0=z0,v 1=z1,v 2=z2,v 3=z3,v 4=z4,v 5=z5,v 6=z6,v 7=z7,v 8=z8,v 9=z9,v 10=z10,v 11=z11,v 12=z12,v 13=z13,v 14=z14,v 15=z15,v 16=z16,v 17=z17,v 18=z18,v 19=z19,v 20=z20,v 21=z21,v 22=z22,v 23=z23;go_wp2_with fail
     go_roundw
     case rel=>
      have hgs:World.grownBy W6 (W6.setCell ⟨w.heap.size+1+1+1,2,none⟩ (.slice a9 XL.length c9)) (some (w.heap.size+1+1+1)):=World.grownBy.set' ⟨rfl,rfl,rfl,Nat.le_refl _,fun _ _ _=>rfl⟩ _;exact ⟨k+1,.slice a9 XL.length c9,XL,oq_,oq_,by go_num,oq_,hq_ (by rw [HTK.out,qw_,HXE.out,<- HXL.out,HXX.out]),hq_ (HX9.out.keep (a3_.grown hgs oq_) hgs.size),hq_ ((HV.out.below ap_ HB6.out).low ap_ hgs oq_),hq_ (a0_ 2 _ HO6.out),hq_ (World.grownBy.trans' (World.grownBy.trans' HG.out (World.grownBy.of_below HB6.out _)) hgs)⟩
     case measure=>simp [intOf];omega
   ·have HFE:Hid (xl=extF (el.take 4)):=hq_ (by
     rw [HXL.out];by_cases h4:k=4
     ·rw [h4]
     ·rw [List.take_of_length_le (show el.length≤k by omega),List.take_of_length_le (show el.length≤4 by omega)])
    have hml:M.length=(clsF ll ml (min 3 (min ml.length ll.length))).length:=by rw [<- HM.out,List.length_map]
    have HML:=hq_ hml;have HXE:Hid (xl.length=(extF (el.take 4)).length):=hq_ (by rw [<- HFE.out]);have hr1:Bxx wk (w.heap.size+1) #[.slice none 0 0,.int .i64 0,.slice none 0 0] 55:=(HG.out.block _ oq_ (by intro e;injection e with e;omega)).trans K1.out;have HR1:=hq_ hr1;have j0:=hr1.cells 0;have j1:=hr1.cells 1;have j2:=hr1.cells 2;have t0:=(HBO.out.cells 0).1;have t1:=(HBO.out.cells 1).1;have t2:=(HBO.out.cells 2).1;clear hml hr1;have DONE:∀ (ts:Array Value),True:=fun _=>trivial;clear DONE;by_cases c1:k<el.length
    ·have c1I:(k:Int)<el.length:=oq_;have c2I:¬ (k:Int)<4:=oq_;go_wp2_with fail
     have hfin:=oa_ (x':=.slice va M.length vc) (y':=.int .i64 LN) (z':=.slice xa xl.length xc) HR1.out;have s0:=(hfin.cells 0).1;have s1:=(hfin.cells 1).1;have s2:=(hfin.cells 2).1;have hbf:=HBK.out;have hgs:World.grownBy wk (((wk.setCell ⟨w.heap.size+1,0,none⟩ (.slice va M.length vc)).setCell ⟨w.heap.size+1,1,none⟩ (.int .i64 LN)).setCell ⟨w.heap.size+1,2,none⟩ (.slice xa xl.length xc)) (some (w.heap.size+1)):=World.grownBy.set' (World.grownBy.set' (World.grownBy.set' ⟨rfl,rfl,rfl,Nat.le_refl _,fun _ _ _=>rfl⟩ _) _) _;have hst:StrR _ (fun b=>w.heap.size≤b) (.slice va M.length vc) (.slice xa xl.length xc) (j6_ ll ml ln el):=⟨M,HM.out,(HV.out.low ap_ hgs oq_).clsL.mono fun b h=>by have:=h.1;omega,by
      have h1:=(HX.out.keep (a3_.grown hgs oq_) hgs.size).mono (G:=fun b=>w.heap.size≤b) fun b h=>oq_;rw [HFE.out] at h1 ⊢;exact h1,by show InI (lenF ln);rw [HLN.out];exact ⟨oq_,oq_⟩⟩
     refine bodyPost_ret (v:=.agg #[.slice va M.length vc,.int .i64 LN,.slice xa xl.length xc]) (by simp [results,Tryz.results64,go_sem,s0,s1,s2]) rfl ?_;rw [HML.out,HXE.out] at hst ⊢;exact ⟨va,vc,xa,xc,by rw [<- HLN.out];rfl,hst.lt,xE⟩
    ·have c1I:¬ (k:Int)<el.length:=oq_;go_wp2_with fail
     have hfin:=oa_ (x':=.slice va M.length vc) (y':=.int .i64 LN) (z':=.slice xa xl.length xc) HR1.out;have s0:=(hfin.cells 0).1;have s1:=(hfin.cells 1).1;have s2:=(hfin.cells 2).1;have hbf:=HBK.out;have hgs:World.grownBy wk (((wk.setCell ⟨w.heap.size+1,0,none⟩ (.slice va M.length vc)).setCell ⟨w.heap.size+1,1,none⟩ (.int .i64 LN)).setCell ⟨w.heap.size+1,2,none⟩ (.slice xa xl.length xc)) (some (w.heap.size+1)):=World.grownBy.set' (World.grownBy.set' (World.grownBy.set' ⟨rfl,rfl,rfl,Nat.le_refl _,fun _ _ _=>rfl⟩ _) _) _;have hst:StrR _ (fun b=>w.heap.size≤b) (.slice va M.length vc) (.slice xa xl.length xc) (j6_ ll ml ln el):=⟨M,HM.out,(HV.out.low ap_ hgs oq_).clsL.mono fun b h=>by have:=h.1;omega,by
      have h1:=(HX.out.keep (a3_.grown hgs oq_) hgs.size).mono (G:=fun b=>w.heap.size≤b) fun b h=>oq_;rw [HFE.out] at h1 ⊢;exact h1,by show InI (lenF ln);rw [HLN.out];exact ⟨oq_,oq_⟩⟩
     refine bodyPost_ret (v:=.agg #[.slice va M.length vc,.int .i64 LN,.slice xa xl.length xc]) (by simp [results,Tryz.results64,go_sem,s0,s1,s2]) rfl ?_;rw [HML.out,HXE.out] at hst ⊢;exact ⟨va,vc,xa,xc,by rw [<- HLN.out];rfl,hst.lt,xE⟩
def CpS (n:Nat) (S:Str) (v:Value) (W:World):Prop:=∃ a1 c1 a2 c2,v=.agg #[.slice a1 S.cls.length c1,.int .i64 S.len,.slice a2 S.ext.length c2]∧StrR W (fun b=>n≤b) (.slice a1 S.cls.length c1) (.slice a2 S.ext.length c2) S
theorem CpS.ext {S:Str} (h:CpS n S v W) (hb:Below W.heap.size W W'):CpS n S v W':=by
 obtain ⟨a1,c1,a2,c2,e,g⟩:=h;exact ⟨a1,c1,a2,c2,e,g.ext hb⟩
def EnS (n:Nat) (id rk:Int) (fm:Bool) (S:Str) (v:Value) (W:World):Prop:=∃ a1 c1 a2 c2,v=.agg #[.int .i64 id,.bool fm,.int .i64 rk,.slice a1 S.cls.length c1,.int .i64 S.len,.slice a2 S.ext.length c2]∧StrR W (fun b=>n≤b) (.slice a1 S.cls.length c1) (.slice a2 S.ext.length c2) S
theorem EnS.ext {id rk:Int} {fm:Bool} {S:Str} (h:EnS n id rk fm S v W) (hb:Below W.heap.size W W'):EnS n id rk fm S v W':=by
 obtain ⟨a1,c1,a2,c2,e,g⟩:=h;exact ⟨a1,c1,a2,c2,e,g.ext hb⟩
def wf_ (w:World) (e:Ending) (w':World):Prop:=∃ y:EntV,e=.returned y.val∧REnt w' (fun b=>w.heap.size≤b) y∧l0_ y.ent∧Below w.heap.size w w'
theorem Bxx.set6 {b:Nat} {x0 x1 x2 x3 x4 x5 y0 y1 y2 y3 y4 y5:Value} {t:TypeId} (h:Bxx W b #[x0,x1,x2,x3,x4,x5] t) :
  Bxx ((((((W.setCell ⟨b,0,none⟩ y0).setCell ⟨b,1,none⟩ y1).setCell ⟨b,2,none⟩ y2).setCell ⟨b,3,none⟩ y3).setCell ⟨b,4,none⟩ y4).setCell ⟨b,5,none⟩ y5) b #[y0,y1,y2,y3,y4,y5] t∧W.grownBy ((((((W.setCell ⟨b,0,none⟩ y0).setCell ⟨b,1,none⟩ y1).setCell ⟨b,2,none⟩ y2).setCell ⟨b,3,none⟩ y3).setCell ⟨b,4,none⟩ y4).setCell ⟨b,5,none⟩ y5) (some b):=
 ⟨a0_ 5 y5 (a0_ 4 y4 (a0_ 3 y3 (a0_ 2 y2 (a0_ 1 y1 (a0_ 0 y0 h))))),World.grownBy.set' (World.grownBy.set' (World.grownBy.set' (World.grownBy.set' (World.grownBy.set' (World.grownBy.set' ⟨rfl,rfl,rfl,Nat.le_refl _,fun _ _ _=>rfl⟩ _) _) _) _) _) _⟩
theorem q7_ {k:Int} (h:0≤x) (hk:0<k):0≤Int.tmod x k∧Int.tmod x k<k:=by
 rw [Int.tmod_eq_emod_of_nonneg h];exact ⟨Int.emod_nonneg _ oq_,Int.emod_lt_of_pos _ hk⟩
theorem k8_ (x:RwV) (w:World) (h:RwOk w x):Calls Tryz.prog 25 #[x.val] w (wf_ w):=by
 obtain ⟨⟨ll,ml,el,hraw⟩,m0,m1,r0,r1⟩:=h;obtain ⟨mt,rk,fm,⟨dv,mv,ln,ev⟩⟩:=x;dsimp only [RwV.val] at *;obtain ⟨S,hS⟩:∃ S,j6_ ll ml ln el=S:=⟨_,rfl⟩;have HMS:Hid (h8_ S):=hq_ (hS ▸ pm_ hraw.mins.rng hraw.ext.rng);have HMD:Hid (∀ W,Below w.heap.size w W->Calls Tryz.prog 64 #[.agg #[dv,mv,.int .u8 ln,ev]] W (ns_ S W)):=hq_ (fun W hb=>hS ▸ pl_ ⟨dv,mv,ln,ev⟩ ll ml el W (hraw.below hb));have hm5:=q7_ (k:=12) m0 oq_;have hr5:=q7_ (k:=6) r0 oq_;obtain ⟨m,hm⟩:∃ m,Int.tmod mt 12=m:=⟨_,rfl⟩;obtain ⟨r,hr⟩:∃ r,Int.tmod rk 6=r:=⟨_,rfl⟩;rw [hm] at hm5;rw [hr] at hr5;clear hS hraw
 go_enter Tryz.func25,Tryz.ntmps25
 go_upto_region 1 with fail
 refine bf_ (F:=fun U=>Bxx U w.heap.size #[.int .u8 mt,.int .u8 rk,.bool fm,dv,mv,.int .u8 ln,ev] 51∧Bxx U (w.heap.size+1) #[.int .i64 0,.bool false,.int .i64 0,.slice none 0 0,.int .i64 0,.slice none 0 0] 57∧Below w.heap.size w U) ⟨(Bxx.new w _ _).alloc _,Bxx.at sq_,xE⟩ ?_;rintro w2 ⟨hb,hr0,hu⟩;have x0:=(hb.cells 0).1;have x1:=(hb.cells 1).1;have x2:=(hb.cells 2).1;have x3:=(hb.cells 3).1;have x4:=(hb.cells 4).1;have x5:=(hb.cells 5).1;have x6:=(hb.cells 6).1;have HR0:=hq_ hr0;have HU:=hq_ hu;clear hb hr0 hu;refine bj_ (w0:=w2) [0,1,2,3,4,5,6,7,8,9,10,11,12,13,14] [15] [3,4,5,6,7,8,9,10,11,12,13,14,15,16,17] [.pointer (some ⟨w.heap.size,0,none⟩),.int .u8 mt,.int .u8 m,.int .i64 m,.int .i64 (1+m),.pointer (some ⟨w.heap.size,2,none⟩),.bool fm,.pointer (some ⟨w.heap.size,1,none⟩),.int .u8 rk,.int .u8 r,.int .i64 r,.pointer (some ⟨w.heap.size,3,none⟩),.agg #[dv,mv,.int .u8 ln,ev],undef,undef] [[],[0],[1],[2],[3],[],[5],[],[7],[8],[9],[],[11],[12],[4,6,10]] [[],[],[],[],[],[],[],[],[],[],[],[],[],[],[13]] [13,14] (fun i v lo hi W=>match i with|13=>CpS w2.heap.size S (v 13) W|14=>EnS w2.heap.size (1+m) r fm S (v 14) W|_=>True) (.a x0 (.a x1 (.a x2 (.a x3 (.a x4 (.a x5 (.z x6))))))) ?steps ?fin
 case steps=>
  repeat' first|exact .n|refine .c ?_ ?_|fail
  all_goals try exact stw
  ·rintro v lo hi W hb ⟨g0,g1,g2,g3,g4,g5,g6⟩ _;refine .inl ⟨rfl,fun K hK=>?_⟩;simp only [ov,vat,Nat.reduceBEq,cond_true,cond_false];go_wp2_with (go_at_call 64;(with_reducible refine (HMD.out _ (Et HU.out hb)).mono ?_);rintro e w9 ⟨a1,c1,a2,c2,rfl,hst,hb9⟩)
   exact acx (hK (.agg #[.slice a1 S.cls.length c1,.int .i64 S.len,.slice a2 S.ext.length c2]) w9 hb9 ⟨a1,c1,a2,c2,rfl,hst.mono fun b h=>Nat.le_trans hb.size h.1⟩) (by simp [ov,vat,upd])
  ·rintro v lo hi W hb ⟨g0,g1,g2,g3,g4,g5,g6⟩ ⟨⟨la13,lb13,D13⟩,_⟩;refine .inl ⟨rfl,fun K hK=>?_⟩;simp only [ov,vat,Nat.reduceBEq,cond_true,cond_false]
   (try dsimp only at D13)
   obtain ⟨a1,c1,a2,c2,e13,hst⟩:=D13
   (try simp only [e13])
   go_wp2_with fail
   exact acx (hK (.agg #[.int .i64 (1+m),.bool fm,.int .i64 r,.slice a1 S.cls.length c1,.int .i64 S.len,.slice a2 S.ext.length c2]) W (Below.refl _ _) ⟨a1,c1,a2,c2,rfl,hst⟩) (by simp [ov,vat,upd,e13])
 case fin=>
  rintro v lo hi W3 hb3 ⟨-,-,-,-,-,-,-⟩ hf hap;show wpList _ _ _ [_] _ _;obtain ⟨-,-,-,a1,c1,a2,c2,e14,hst⟩:=hf 14 rfl;have hbx:=HR0.out.below hb3;have c0:=hbx.cells 0;have c1':=hbx.cells 1;have c2':=hbx.cells 2;have c3:=hbx.cells 3;have c4:=hbx.cells 4;have c5:=hbx.cells 5;have HST:=hq_ hst;have HBX:=hq_ hbx;have HB3:=hq_ (Et HU.out hb3);rw [e14];clear hf hap hst hbx hb3 e14 x0 x1 x2 x3 x4 x5 x6;generalize v 0=yv0,v 1=yv1,v 2=yv2,v 3=yv3,v 4=yv4,v 5=yv5,v 6=yv6,v 7=yv7,v 8=yv8,v 9=yv9,v 10=yv10,v 11=yv11,v 12=yv12,v 13=yv13;have hz2:=HR0.out.lt;go_wp2_with fail
  have hs:=HBX.out.set6 (y0:=.int .i64 (1+m)) (y1:=.bool fm) (y2:=.int .i64 r) (y3:=.slice a1 S.cls.length c1) (y4:=.int .i64 S.len) (y5:=.slice a2 S.ext.length c2);generalize ((((((W3.setCell ⟨w.heap.size+1,0,none⟩ (.int .i64 (1+m))).setCell ⟨w.heap.size+1,1,none⟩ (.bool fm)).setCell ⟨w.heap.size+1,2,none⟩ (.int .i64 r)).setCell ⟨w.heap.size+1,3,none⟩ (.slice a1 S.cls.length c1)).setCell ⟨w.heap.size+1,4,none⟩ (.int .i64 S.len)).setCell ⟨w.heap.size+1,5,none⟩ (.slice a2 S.ext.length c2))=W4 at hs ⊢;obtain ⟨hs,hg⟩:=hs;have s0:=(hs.cells 0).1;have s1:=(hs.cells 1).1;have s2:=(hs.cells 2).1;have s3:=(hs.cells 3).1;have s4:=(hs.cells 4).1;have s5:=(hs.cells 5).1;refine bodyPost_ret (v:=.agg #[.int .i64 (1+m),.bool fm,.int .i64 r,.slice a1 S.cls.length c1,.int .i64 S.len,.slice a2 S.ext.length c2]) (by simp [results,Tryz.results25,go_sem,s0,s1,s2,s3,s4,s5]) rfl ?_;have hst:=(HST.out.keep (a3_.grown hg (fun h=>by have:w2.heap.size≤w.heap.size+1:=h;omega)) hg.size).mono (G:=fun b=>w.heap.size≤b) fun b hb=>Nat.le_trans HU.out.size hb;have hI:∀ x:Int,0≤x∧x≤1000->InI x:=fun x h=>⟨oq_,oq_⟩;exact ⟨⟨1+m,fm,r,.slice a1 S.cls.length c1,.slice a2 S.ext.length c2,S⟩,rfl,⟨hst,hI (1+m) oq_,hI r oq_⟩,⟨⟨⟨by show 1≤1+m;omega,by show 1+m≤1099511627776;omega⟩,⟨by show 0≤r;omega,by show r≤100;omega⟩,HMS.out.ms.val⟩,HMS.out.sms,⟨by show 1≤1+m;omega,by show 1+m≤12;omega⟩,⟨by show 0≤r;omega,by show r≤5;omega⟩,HMS.out.near⟩,HB3.out.grown hg HB3.out.size (fun q e=>by injection e with e;omega)⟩
def vb_ (w:World) (e:Ending) (w':World):Prop:=∃ v L,e=.returned v∧is_ (L.map EntV.ent)∧DiaL w' (fun b=>w.heap.size≤b) v L∧Below w.heap.size w w'
theorem fs_ (v:Value) (A:List RwV) (w:World) (h:RwsR w v A):Calls Tryz.prog 14 #[v] w (vb_ w):=by
 obtain ⟨a,c,rfl⟩:∃ a c,v=.slice a A.length c:=by obtain ⟨a,c,e,_⟩:=h.row.is;exact ⟨a,c,e⟩
 have hlen:(A.length:Int)≤9223372036854775807:=by obtain ⟨a',c',e,h1,h2,_⟩:=h.row.is;omega
 have H:=hq_ h;clear h
 go_enter Tryz.func14,Tryz.ntmps14
 go_wp2_with fail
 go_loopw [3,4] (fun ov iv wr=>∃ (k:Nat) (L:List EntV),k≤4∧k≤A.length∧iv=.int .i64 k∧Hid (cq_ k (L.map EntV.ent))∧Hid (DiaL wr (fun b=>w.heap.size≤b) ov L)∧Hid (Below w.heap.size w wr)) (fun _ iv _=>4-(intOf iv).toNat)
 case atStart=>exact ⟨0,[],oq_,oq_,rfl,hq_ .nil,hq_ ⟨⟨_,0,rfl,sq_,oq_,.inl rfl⟩,sq_,sq_⟩,hq_ xE⟩
 case round=>
  obtain ⟨k,L,hk4,hkA,rfl,HMI,HD,HB⟩:=hrel;obtain ⟨oa,oc,rfl⟩:=HD.out.form;by_cases hlt:k<A.length
  ·have hlI:(k:Int)<A.length:=oq_;by_cases h4:k<4
   ·have h4I:(k:Int)<4:=oq_;obtain ⟨b,o,x,rfl,hbl,hx,hok,e0,e1,e2,e3,e4,e5,e6⟩:=(H.out.below HB.out).get hlt;have hen:=fun W (hb:Below wr.heap.size wr W)=>k8_ x W (hok.below hb);obtain ⟨mt,rk,fm,⟨dv,mv,ln,ev⟩⟩:=x;dsimp only [RwV.val] at *;have HEN:=hq_ hen;have HLT:=hq_ (show k+1≤A.length by omega);have HL4:=hq_ (show k+1≤4 by omega);have hsm:SmD (L.map EntV.ent):=HMI.out.sm oq_;have HSM:=hq_ hsm;have hwz:=HB.out.size;clear hx hok hen hsm;go_wp2_with (first|(go_at_call 25;(with_reducible refine (HEN.out _ (Er _)).mono ?_);rintro e w4 ⟨y,rfl,hyr,hyo,hb4⟩;have hpt:=pw_ (fun b=>w.heap.size≤b) (fun b=>wr.heap.size≤b) (.slice oa L.length oc) L y w4 (HD.out.ext hb4) HSM.out hyr hyo.good;obtain ⟨y1,g1,y2,g2,hycv,hyev⟩:=hyr.1.form;obtain ⟨yid,yfm,yrk,ycv,yev,ys⟩:=y;dsimp only at hycv hyev;subst hycv;subst hyev;dsimp only [EntV.val] at hpt ⊢;have HPT:=hq_ hpt;have HYO:=hq_ hyo;have HB4:=hq_ hb4;clear hpt hyr hyo hb4)|(go_at_call 34;(with_reducible refine HPT.out.mono ?_);rintro e w5 ⟨v5,M,rfl,hM,hD,hb5⟩;obtain ⟨ma,mc,rfl⟩:=hD.form;have HM:=hq_ hM;have HD5:=hq_ hD;have HB5:=hq_ hb5;clear hM hD hb5))
    go_roundw
    case rel=>
     have h45:=HB4.out.size;exact ⟨k+1,M,HL4.out,HLT.out,by go_num,hq_ (by rw [HM.out];exact HMI.out.put HYO.out),hq_ (HD5.out.mono fun b hb=>by rcases hb with hb|hb|hb <;> omega),hq_ (Et HB.out (Et HB4.out HB5.out))⟩
    case measure=>simp [intOf];omega
   ·obtain rfl:k=4:=oq_;go_wp2_with fail
    go_ret;exact ⟨_,L,rfl,⟨HMI.out.asc,HMI.out.ok,HMI.out.len⟩,HD.out,HB.out⟩
  ·have hlI:¬ (k:Int)<A.length:=oq_;go_wp2_with fail
   go_ret;exact ⟨_,L,rfl,⟨HMI.out.asc,HMI.out.ok,by have:=HMI.out.len;omega⟩,HD.out,HB.out⟩
theorem h1_ (v1 v2:Value) (l1 l2:List Int) (w:World) (h1:Ints w v1 l1) (h2:Ints w v2 l2) :
  Calls Tryz.prog 307 #[v1,v2] w fun e w'=>e=.returned (.bool (decide (l1=l2)))∧Below w.heap.size w w':=by
 have H1:=hq_ h1;have H2:=hq_ h2;obtain ⟨⟨a1,c1,rfl,_,_,_⟩,g4,_⟩:=h1;obtain ⟨⟨a2,c2,rfl,_,_,_⟩,k4,_⟩:=h2
 go_enter Tryz.func307,Tryz.ntmps307
 by_cases hl:l1.length=l2.length
 ·have hlI:(l1.length:Int)=l2.length:=oq_;have HLL:=hq_ hl;have hdf:((l1.length:Int) != (l2.length:Int))=false:=by rw [hlI];simp
  rw [hlI] at hdf;clear hl;go_wp2_with fail
  go_loopw [5] (fun i wr=>∃ k:Nat,k≤l1.length∧i=.int .i64 k∧l1.take k=l2.take k∧Below w.heap.size w wr) (fun i _=>l1.length-(intOf i).toNat)
  case atStart=>exact ⟨0,oq_,rfl,sq_,xE⟩
  case round=>
   obtain ⟨k,hk,rfl,ht,hb⟩:=hrel;have HT:=hq_ ht;clear ht;by_cases hlt:k<l1.length
   ·have hlt2:k<l2.length:=by have:=HLL.out;omega
    obtain ⟨⟨a1',c1',he1,_,_,g3⟩,_,_⟩:=H1.out.ext hb;obtain ⟨⟨a2',c2',he2,_,_,k3⟩,_,_⟩:=H2.out.ext hb;injection he1 with e1 _ e2
    subst e1;subst e2;injection he2 with e1 _ e2
    subst e1;subst e2;rcases g3 with h|⟨b1,o1,rfl,hcell1⟩
    ·subst h;simp at hlt
    rcases k3 with h|⟨b2,o2,rfl,hcell2⟩
    ·subst h;simp at hlt2
    have HB:=hq_ hb;have hc1:=hcell1 k hlt;have hc2:=hcell2 k hlt2;have HST:=hq_ (km_ HLL.out hlt HT.out);generalize hx:l1.getD k 0=x at *;generalize hy:l2.getD k 0=y at *;have HX:=hq_ hx;have HY:=hq_ hy;clear hcell1 hcell2 hx hy hb;by_cases hxy:x=y
    ·have HXY:=hq_ hxy;have hb:(x != y)=false:=by rw [HXY.out];simp
     clear hxy;go_wp2_with fail
     go_quiet (fail)
     go_wp2_with fail
     go_roundw
     case rel=>exact ⟨k+1,oq_,by go_num,HST.out HXY.out,by have hb:=HB.out;exact xE⟩
     case measure=>simp [intOf];omega
    ·have hb:(x != y)=true:=by simp [hxy]
     have hne:l1≠l2:=fun h=>hxy (by rw [<- HX.out,<- HY.out,h]);go_wp2_with fail
     go_quiet (fail)
     go_wp2_with fail
     go_ret;exact ⟨a1_ (by simp [hne]),by have hb:=HB.out;exact xE⟩
   ·have heq:l1=l2:=by
     have h:=HT.out;rw [List.take_of_length_le oq_,List.take_of_length_le (by have:=HLL.out;omega)] at h;exact h
    go_wp2_with fail
    go_ret;exact ⟨a1_ (by simp [heq]),xE⟩
 ·have hlI:¬ (l1.length:Int)=l2.length:=oq_;have hdf:((l1.length:Int) != (l2.length:Int))=true:=by simp [hlI]
  have hne:l1≠l2:=fun h=>hl (by rw [h]);go_wp2_with fail
  go_ret;exact ⟨a1_ (by simp [hne]),xE⟩
theorem jy_ (F G:Nat->Prop) (x y:PV) (w:World) (hx:PVok w F x) (hy:PVok w G y) :
  Calls Tryz.prog 267 #[x.val,y.val] w fun e w'=>e=.returned (.bool (cf_ x.p y.p))∧Below w.heap.size w w':=by
 have H1:=fun W (h:Below w.heap.size w W)=>h1_ x.h y.h x.p.head y.p.head W (hx.is.hd.ext h) (hy.is.hd.ext h);have H2:=fun W (h:Below w.heap.size w W)=>h1_ x.c y.c x.p.cycle y.p.cycle W (hx.is.cy.ext h) (hy.is.cy.ext h);clear hx hy;obtain ⟨xh,xc,xp⟩:=x;obtain ⟨yh,yc,yp⟩:=y;change Calls _ _ #[perV xh xc xp.frm xp.period,perV yh yc yp.frm yp.period] _ fun e w'=>e=.returned (.bool (cf_ xp yp))∧_;change ∀ W,_->Calls _ _ #[xh,yh] W fun e w'=>e=.returned (.bool (decide (xp.head=yp.head)))∧_ at H1;change ∀ W,_->Calls _ _ #[xc,yc] W fun e w'=>e=.returned (.bool (decide (xp.cycle=yp.cycle)))∧_ at H2;by_cases h1:xp.frm=yp.frm
 ·by_cases h2:xp.period=yp.period
  ·by_cases h3:xp.head=yp.head
   ·rw [decide_eq_true h3] at H1;have e:cf_ xp yp=decide (xp.cycle=yp.cycle):=by unfold cf_;simp [h1,h2,h3]
    rw [e];clear e h3;generalize decide (xp.cycle=yp.cycle)=b at *
    go_enter Tryz.func267,Tryz.ntmps267
    go_wp2_with (go_at_call 307;first|((with_reducible refine (H1 _ xE).mono ?_);rintro e w1 ⟨rfl,hb1⟩;obtain ⟨hc1,hf1⟩:=hb_ hb1;(try simp only [World.size_alloc,World.size_drew,g5_,World.size_setCell] at hc1 hf1);have hz1:w.heap.size+1<w1.heap.size:=(by have h7:=hb1.size;simp at h7;omega))|((with_reducible refine (H2 _ xE).mono ?_);rintro e w2 ⟨rfl,hb2⟩))
    go_ret;exact ⟨rfl,xE⟩
   ·rw [decide_eq_false h3] at H1;have e:cf_ xp yp=false:=by unfold cf_;simp [h3]
    rw [e];clear e h3
    go_enter Tryz.func267,Tryz.ntmps267
    go_wp2_with (go_at_call 307;first|((with_reducible refine (H1 _ xE).mono ?_);rintro e w1 ⟨rfl,hb1⟩;obtain ⟨hc1,hf1⟩:=hb_ hb1;(try simp only [World.size_alloc,World.size_drew,g5_,World.size_setCell] at hc1 hf1);have hz1:w.heap.size+1<w1.heap.size:=(by have h7:=hb1.size;simp at h7;omega))|((with_reducible refine (H2 _ xE).mono ?_);rintro e w2 ⟨rfl,hb2⟩))
    go_ret;exact ⟨rfl,xE⟩
  ·have e:cf_ xp yp=false:=by unfold cf_;simp [h2]
   rw [e];clear e
   go_enter Tryz.func267,Tryz.ntmps267
   go_wp2_with fail
   go_ret;exact ⟨rfl,xE⟩
 ·have e:cf_ xp yp=false:=by unfold cf_;simp [h1]
  rw [e];clear e
  go_enter Tryz.func267,Tryz.ntmps267
  go_wp2_with fail
  go_ret;exact ⟨rfl,xE⟩
end Go.Proofs.YtkclokcenllhmaaGreat
end
