/- Part 7 of what the claims of this seat rest on. -/
import Derived.Test.YthjnojbeimchdaaGreatB6
set_option linter.unusedVariables false
set_option linter.unusedSimpArgs false
/- Walks: operate (package periodic): the intersection. -/
namespace Go.Proofs.YthjnojbeimchdaaGreat
open Go.RowKit Go.Maps Kal
set_option maxRecDepth 100000 in
set_option maxHeartbeats 4000000 in
theorem operate_and (h1 c1 h2 c2:Value) (p1 p2 qa qb q:Per) (w:World) (hp1:PerIs w h1 c1 p1) (hp2:PerIs w h2 c2 p2) (hv1:Valid p1) (hv2:Valid p2) (hqa:IsCanon qa p1.mem) (hqb:IsCanon qb p2.mem)
  (hL:lcmI qa.period qb.period≤1099511627776) (hpa:qa.period≤4294967295) (hpb:qb.period≤4294967295)
  (hq:IsCanon q (fun n=>p1.mem n∧p2.mem n)) (hcn:cnt (fun n=>p1.mem n∧p2.mem n) (max qa.frm qb.frm+lcmI qa.period qb.period).toNat≤1048576) :
  Calls Tryz.prog 119 #[perV h1 c1 p1.frm p1.period,perV h2 c2 p2.frm p2.period,.int .i64 0] w (PerOk q w):=by
 obtain ⟨a1,m1,a2,m2,rfl,rfl⟩:=hp1.inn.form
 obtain ⟨a3,m3,a4,m4,rfl,rfl⟩:=hp2.inn.form
 have hl1:∀ W,Below w.heap.size w W→PerIs W (.slice a1 p1.head.length m1) (.slice a2 p1.cycle.length m2) p1:=fun W hb=>hp1.ext hb
 have hl2:∀ W,Below w.heap.size w W→PerIs W (.slice a3 p2.head.length m3) (.slice a4 p2.cycle.length m4) p2:=fun W hb=>hp2.ext hb
 have hvb1:=(validB_iff p1).2 hv1
 have hvb2:=(validB_iff p2).2 hv2
 have HV1:=Lib.hid hv1
 have HV2:=Lib.hid hv2
 have HQA:=Lib.hid hqa
 have HQB:=Lib.hid hqb
 have HF1:Hid (p1.frm≤562949953421312∧p1.period≤562949953421312):=by have:=hv1.frm;have:=hv1.per;exact Lib.hid (by omega)
 have HF2:Hid (p2.frm≤562949953421312∧p2.period≤562949953421312):=by have:=hv2.frm;have:=hv2.per;exact Lib.hid (by omega)
 obtain ⟨b1,b2,_,b4,b5⟩:=hqa.smaller hv1.wf
 obtain ⟨d1,d2,_,d4,d5⟩:=hqb.smaller hv2.wf
 have za0:=hqa.wf.frm
 have zb0:=hqb.wf.frm
 have za1:=hqa.wf.per
 have zb1:=hqb.wf.per
 have e1:=hv1.frm
 have e2:=hv1.per
 have e3:=hv2.frm
 have e4:=hv2.per
 have hgl:=gcd_bound (b:=qb.period) za1
 have hgl2:=gcd_bound2 (a:=qa.period) zb1
 clear hp1 hp2 hv1 hv2 hqa hqb
 obtain ⟨st,hst⟩:∃ st,st=max (max qa.frm qb.frm) 0:=⟨_,rfl⟩
 have HSTT:=Lib.hid hst
 have hs1:qa.frm≤st:=by omega
 have hs2:qb.frm≤st:=by omega
 have hs3:st≤1099511627776:=by omega
 clear hst
 generalize hG:((Int.gcd qa.period qb.period:Nat):Int)=g at *
 have HG:=Lib.hid hG
 clear hG
 go_enter Tryz.func119,Tryz.ntmps119
 go_upto_region 4 with ((first|(go_at_call 65;first|((with_reducible refine (valid_any _ _ p1 _ (hl1 _ (by (repeat' (with_reducible first|assumption|apply Er|apply Ea|apply Ed|apply En|(refine Es ?_ (by first|(simp<;>omega)|omega) _)|refine Et ?_ (by assumption)))))).mono ?_);rintro e w1 ⟨rfl,hb1⟩;obtain ⟨hx1,hf1⟩:=bcell hb1;(try simp only [World.size_alloc,World.size_drew,size_drewN,World.size_setCell] at hx1 hf1);have hz1:w.heap.size+2<w1.heap.size:=(by have h7:=hb1.size;simp at h7;omega))|((with_reducible refine (valid_any _ _ p2 _ (hl2 _ (by (repeat' (with_reducible first|assumption|apply Er|apply Ea|apply Ed|apply En|(refine Es ?_ (by first|(simp<;>omega)|omega) _)|refine Et ?_ (by assumption)))))).mono ?_);rintro e w2 ⟨rfl,hb2⟩;obtain ⟨hx2,hf2⟩:=bcell hb2;(try simp only [World.size_alloc,World.size_drew,size_drewN,World.size_setCell] at hx2 hf2);have hz2:w.heap.size+2<w2.heap.size:=(by have h7:=hb2.size;omega);have hA:=(((((Bxx.new w #[.slice a1 p1.head.length m1,.int .i64 p1.frm,.int .i64 p1.period,.slice a2 p1.cycle.length m2] 39).alloc (.cells #[.slice a3 p2.head.length m3,.int .i64 p2.frm,.int .i64 p2.period,.slice a4 p2.cycle.length m4] 39)).alloc (.cells #[.slice none 0 0,.int .i64 0,.int .i64 0,.slice none 0 0] 39)).upto hb1 (by simp;omega)).upto hb2 (by omega));have hB:=((((Bxx.new (w.alloc (.cells #[.slice a1 p1.head.length m1,.int .i64 p1.frm,.int .i64 p1.period,.slice a2 p1.cycle.length m2] 39)) #[.slice a3 p2.head.length m3,.int .i64 p2.frm,.int .i64 p2.period,.slice a4 p2.cycle.length m4] 39).alloc (.cells #[.slice none 0 0,.int .i64 0,.int .i64 0,.slice none 0 0] 39)).upto hb1 (by simp)).upto hb2 (by simp;omega));simp only [World.size_alloc] at hB;have A0:=(hA.cells 0).1;have A1:=(hA.cells 1).1;have A2:=(hA.cells 2).1;have A3:=(hA.cells 3).1;have B0:=(hB.cells 0).1;have B1:=(hB.cells 1).1;have B2:=(hB.cells 2).1;have B3:=(hB.cells 3).1))|(go_at_call 147;refine (newPair_any _ _ _ _ p1 p2 qa qb 0 _ (hl1 _ (by (repeat' (with_reducible first|assumption|apply Er|apply Ea|apply Ed|apply En|(refine Es ?_ (by first|(simp<;>omega)|omega) _)|refine Et ?_ (by assumption))))) (hl2 _ (by (repeat' (with_reducible first|assumption|apply Er|apply Ea|apply Ed|apply En|(refine Es ?_ (by first|(simp<;>omega)|omega) _)|refine Et ?_ (by assumption))))) HV1.out.wf HV2.out.wf HF1.out.1 HF2.out.1 HF1.out.2 HF2.out.2 HQA.out HQB.out (by omega) (by omega)).mono ?_;rintro e w3 ⟨x1,x2,x3,x4,xv,yv,mb,he,hP,hb3⟩;rw [← HSTT.out,HG.out] at he;rw [← HSTT.out] at hP;subst he;obtain ⟨z1,y1,z2,y2,rfl,rfl⟩:=hP.a.form;obtain ⟨z3,y3,z4,y4,rfl,rfl⟩:=hP.b.form;obtain ⟨⟨⟨xa,xc,rfl,_⟩,hxl,_⟩,_⟩:=hP.x;obtain ⟨⟨⟨ya,yc,rfl,_⟩,hyl,_⟩,_⟩:=hP.y)))
 generalize hpbw:w3.heap.size=pb at *
 have hszb:w.heap.size+2<w2.heap.size:=hz2
 have hszc:w2.heap.size≤pb:=by have:=hb3.size;omega
 have hrx:Bxx w3 (w.heap.size+2) #[.slice none 0 0,.int .i64 0,.int .i64 0,.slice none 0 0] 39:=(((Bxx.at (by simp)).upto hb1 (by simp)).upto hb2 (by omega)).upto hb3 (by omega)
 refine wp_abs (F:=fun W3=>Bxx W3 pb #[.slice z1 qa.head.length y1,.int .i64 qa.frm,.int .i64 qa.period,.slice z2 qa.cycle.length y2,.slice z3 qb.head.length y3,.int .i64 qb.frm,.int .i64 qb.period,.slice z4 qb.cycle.length y4,.int .i64 st,.slice xa (isort (cycL qa st)).length xc,.slice ya (isort (cycL qb st)).length yc,.int .i64 g,.map (some mb)] 139∧Bxx W3 (w.heap.size+2) #[.slice none 0 0,.int .i64 0,.int .i64 0,.slice none 0 0] 39∧PairIn W3 w2.heap.size pb (.slice z1 qa.head.length y1) (.slice z2 qa.cycle.length y2) (.slice z3 qb.head.length y3) (.slice z4 qb.cycle.length y4) qa qb st (.slice xa (isort (cycL qa st)).length xc) (.slice ya (isort (cycL qb st)).length yc) mb∧Below w.heap.size w W3∧W3.heap.size=pb+1)
  ⟨Bxx.at hpbw.symm,hrx.alloc _,hP.below (Ea (Er _) _) (by omega),by (repeat' (with_reducible first|assumption|apply Er|apply Ea|apply Ed|apply En|(refine Es ?_ (by first|(simp<;>omega)|omega) _)|refine Et ?_ (by assumption))),by simp [hpbw]⟩ ?_
 clear hP hrx hb1 hb2 hb3 hx1 hf1 hx2 hf2 hA hB A0 A1 A2 A3 B0 B1 B2 B3 hvb1 hvb2 hz1 hpbw
 rintro W3 ⟨hpb,hrb,hP,hE3,hz3⟩
 have c0:W3.cell? ⟨pb,0,none⟩=some (.slice z1 qa.head.length y1):=(hpb.cells 0).1
 have c1:W3.cell? ⟨pb,1,none⟩=some (.int .i64 qa.frm):=(hpb.cells 1).1
 have c2:W3.cell? ⟨pb,2,none⟩=some (.int .i64 qa.period):=(hpb.cells 2).1
 have c3:W3.cell? ⟨pb,3,none⟩=some (.slice z2 qa.cycle.length y2):=(hpb.cells 3).1
 have c4:W3.cell? ⟨pb,4,none⟩=some (.slice z3 qb.head.length y3):=(hpb.cells 4).1
 have c5:W3.cell? ⟨pb,5,none⟩=some (.int .i64 qb.frm):=(hpb.cells 5).1
 have c6:W3.cell? ⟨pb,6,none⟩=some (.int .i64 qb.period):=(hpb.cells 6).1
 have c7:W3.cell? ⟨pb,7,none⟩=some (.slice z4 qb.cycle.length y4):=(hpb.cells 7).1
 have c8:W3.cell? ⟨pb,8,none⟩=some (.int .i64 st):=(hpb.cells 8).1
 have c9:W3.cell? ⟨pb,9,none⟩=some (.slice xa (isort (cycL qa st)).length xc):=(hpb.cells 9).1
 have c10:W3.cell? ⟨pb,10,none⟩=some (.slice ya (isort (cycL qb st)).length yc):=(hpb.cells 10).1
 have c11:W3.cell? ⟨pb,11,none⟩=some (.int .i64 g):=(hpb.cells 11).1
 have c12:W3.cell? ⟨pb,12,none⟩=some (.map (some mb)):=(hpb.cells 12).1
 have hL0:=lcmI_pos za1 zb1
 have HLV:Hid (lcmV qa.period qb.period=.tuple #[.int .i64 (lcmI qa.period qb.period),.int .i64 0]):=Lib.hid (by unfold lcmV;rw [if_pos hL])
 generalize hLL:lcmI qa.period qb.period=L at *
 have HLL:=Lib.hid hLL
 have HFA:=Lib.hid (opFacts HQA.out HQB.out hs1 hs2 hLL.symm HG.out.symm)
 have hPA:=hP.at
 rw [HG.out] at hPA
 have HPA:=Lib.hid hPA
 have HP:=Lib.hid hP
 have HPB:=Lib.hid hpb
 have HRB:=Lib.hid hrb
 have HZ3:=Lib.hid hz3
 have hcl:(sel (fun n=>qa.mem n∧qb.mem n) 0 st).length≤1099511627776:=by
  have:=(sel_rise (S:=fun n=>qa.mem n∧qb.mem n) (lo:=0) (hi:=st) (Int.le_refl _)).length_le (by omega);omega
 have hcc:comN (isort (cycL qa st)) (isort (cycL qb st)) g≤2199023255552:=by
  have h1:=HFA.out.n
  have h2:=cnt_bound (fun n=>p1.mem n∧p2.mem n) (st+L).toNat
  omega
 clear hLL hPA hP hpb hrb hz3
 obtain ⟨HL,hHL⟩:∃ HL,HL=sel (fun n=>qa.mem n∧qb.mem n) 0 st:=⟨_,rfl⟩
 have HHL:=Lib.hid hHL
 rw [← hHL] at hcl
 obtain ⟨cn,hcn9⟩:∃ cn,cn=comN (isort (cycL qa st)) (isort (cycL qb st)) g:=⟨_,rfl⟩
 have HCN:=Lib.hid hcn9
 rw [← hcn9] at hcc
 clear hHL hcn9
 go_upto_region 9 with ((first|(go_at_call 29;refine (lcm_any _ _ _ za1 (by omega) zb1 (by omega)).mono ?_;rintro e w4 ⟨he,nq,rfl⟩;rw [HLV.out] at he;subst he)|(go_at_call 148;refine (heads_any _ _ _ _ qa qb st _ _ g mb _ (HPA.out.ext (by (repeat' (with_reducible first|assumption|apply Er|apply Ea|apply Ed|apply En|(refine Es ?_ (by first|(simp<;>omega)|omega) _)|refine Et ?_ (by assumption))))) HQA.out.wf HQB.out.wf (by have:=HSTT.out;omega) (by omega) (by omega) (by omega) (by omega)).mono ?_;rintro e w5 ⟨hv,rfl,hown5,hb5⟩;rw [← HHL.out] at hown5;obtain ⟨hva,hvc,rfl⟩:=hown5.form;obtain ⟨hc5,hf5⟩:=bcell hb5;(try simp only [World.size_alloc,World.size_drew,size_drewN,World.size_setCell] at hc5 hf5);have hz5:=HZ3.out;have hz5b:=hb5.size;(try simp only [size_drewN] at hz5b);have hz5c:pb<w5.heap.size:=(by omega))|(go_at_call 149;refine (common_any _ _ _ _ qa qb st _ _ g mb _ (HPA.out.ext (by (repeat' (with_reducible first|assumption|apply Er|apply Ea|apply Ed|apply En|(refine Es ?_ (by first|(simp<;>omega)|omega) _)|refine Et ?_ (by assumption))))) (by omega) (by omega) (fun x hx=>by have:=HFA.out.hx.2 x hx;omega) (by rw [← HCN.out];omega)).mono ?_;rintro e w6 ⟨he,hb6⟩;rw [← HCN.out] at he;subst he)))
 have hE6:Below W3.heap.size W3 w6:=by (repeat' (with_reducible first|assumption|apply Er|apply Ea|apply Ed|apply En|(refine Es ?_ (by first|(simp<;>omega)|omega) _)|refine Et ?_ (by assumption)))
 have hown6:=hown5.ext hb6
 have hsz6:=hE6.size
 have HE6:=Lib.hid hE6
 have HOWN6:=Lib.hid hown6
 have hpb6:=HPB.out.below hE6
 have d0:w6.cell? ⟨pb,0,none⟩=some (.slice z1 qa.head.length y1):=(hpb6.cells 0).1
 have d1:w6.cell? ⟨pb,1,none⟩=some (.int .i64 qa.frm):=(hpb6.cells 1).1
 have d2:w6.cell? ⟨pb,2,none⟩=some (.int .i64 qa.period):=(hpb6.cells 2).1
 have d3:w6.cell? ⟨pb,3,none⟩=some (.slice z2 qa.cycle.length y2):=(hpb6.cells 3).1
 have d4:w6.cell? ⟨pb,4,none⟩=some (.slice z3 qb.head.length y3):=(hpb6.cells 4).1
 have d5:w6.cell? ⟨pb,5,none⟩=some (.int .i64 qb.frm):=(hpb6.cells 5).1
 have d6:w6.cell? ⟨pb,6,none⟩=some (.int .i64 qb.period):=(hpb6.cells 6).1
 have d7:w6.cell? ⟨pb,7,none⟩=some (.slice z4 qb.cycle.length y4):=(hpb6.cells 7).1
 have d8:w6.cell? ⟨pb,8,none⟩=some (.int .i64 st):=(hpb6.cells 8).1
 have d9:w6.cell? ⟨pb,9,none⟩=some (.slice xa (isort (cycL qa st)).length xc):=(hpb6.cells 9).1
 have d10:w6.cell? ⟨pb,10,none⟩=some (.slice ya (isort (cycL qb st)).length yc):=(hpb6.cells 10).1
 have d11:w6.cell? ⟨pb,11,none⟩=some (.int .i64 g):=(hpb6.cells 11).1
 have d12:w6.cell? ⟨pb,12,none⟩=some (.map (some mb)):=(hpb6.cells 12).1
 have HPB6:=Lib.hid hpb6
 have hba:=belowI_bound HQA.out.wf (show 0≤st by omega)
 have hbb:=belowI_bound HQB.out.wf (show 0≤st by omega)
 obtain ⟨bA,hbA⟩:∃ bA,bA=belowI qa st:=⟨_,rfl⟩
 obtain ⟨bB,hbB⟩:∃ bB,bB=belowI qb st:=⟨_,rfl⟩
 obtain ⟨RA,hRA⟩:∃ RA,RA=L / qa.period:=⟨_,rfl⟩
 obtain ⟨RB,hRB⟩:∃ RB,RB=L / qb.period:=⟨_,rfl⟩
 obtain ⟨PA,hPA9⟩:∃ PA,PA=((isort (cycL qa st)).length:Int)*RA:=⟨_,rfl⟩
 obtain ⟨PB,hPB9⟩:∃ PB,PB=((isort (cycL qb st)).length:Int)*RB:=⟨_,rfl⟩
 have hIA:bA+PA=cnt p1.mem (st+L).toNat:=by rw [hbA,hPA9,hRA];exact HFA.out.inA
 have hIB:bB+PB=cnt p2.mem (st+L).toNat:=by rw [hbB,hPB9,hRB];exact HFA.out.inB
 have hIA1:=cnt_bound p1.mem (st+L).toNat
 have hIB1:=cnt_bound p2.mem (st+L).toNat
 rw [← hbA] at hba
 rw [← hbB] at hbb
 have hRA0:0≤RA:=by rw [hRA];exact Int.ediv_nonneg (by omega) (by omega)
 have hRB0:0≤RB:=by rw [hRB];exact Int.ediv_nonneg (by omega) (by omega)
 have hRA1:RA≤L:=by rw [hRA];exact Int.ediv_le_self _ (by omega)
 have hRB1:RB≤L:=by rw [hRB];exact Int.ediv_le_self _ (by omega)
 have hPA0:0≤PA:=by rw [hPA9];exact Int.mul_nonneg (by omega) hRA0
 have hPB0:0≤PB:=by rw [hPB9];exact Int.mul_nonneg (by omega) hRB0
 have hPA1:PA≤2199023255552:=by omega
 have hPB1:PB≤2199023255552:=by omega
 have hmA:IntKind.i64.wrap (((isort (cycL qa st)).length:Int)*RA)=PA:=by rw [← hPA9];exact wrapI ⟨by omega,by omega⟩
 have hmB:IntKind.i64.wrap (((isort (cycL qb st)).length:Int)*RB)=PB:=by rw [← hPB9];exact wrapI ⟨by omega,by omega⟩
 have hsA0:0≤bA+PA:=by omega
 have hsA1:bA+PA≤2199023255552:=by omega
 have hsB0:0≤bB+PB:=by omega
 have hsB1:bB+PB≤2199023255552:=by omega
 have hxl9:(isort (cycL qa st)).length≤17592186044416:=hxl
 have hyl9:(isort (cycL qb st)).length≤17592186044416:=hyl
 have HIA:=Lib.hid hIA
 have HIB:=Lib.hid hIB
 have HBA:=Lib.hid hbA
 have HBB:=Lib.hid hbB
 have HRA:=Lib.hid hRA
 have HRB9:=Lib.hid hRB
 have HB5:=Lib.hid hb5
 clear c0 c1 c2 c3 c4 c5 c6 c7 c8 c9 c10 c11 c12 hE6 hown6 hown5 hpb6 hIA hIB hIA1 hIB1 hbA hbB hRA hRB hPA9 hPB9 hb6 hb5 hc5 hf5
 refine wp_region_facts (w0:=w6) [0,1,2,3,4,5,6,7,8,9,10,11,12,13,14,15] [] (fun v=>⟨#[perV (.slice a1 p1.head.length m1) (.slice a2 p1.cycle.length m2) p1.frm p1.period,perV (.slice a3 p2.head.length m3) (.slice a4 p2.cycle.length m4) p2.frm p2.period,.int .i64 0,.pointer (some ⟨w.heap.size,0,none⟩),.pointer (some ⟨w.heap.size+1,0,none⟩),undef,.pointer (some ⟨w.heap.size+1+1,0,none⟩),.int .i64 0,.pointer (some ⟨pb,0,none⟩),.int .i64 L,.int .i64 0,.slice hva HL.length hvc,.int .i64 (↑HL.length+↑cn),v 15,undef,undef,undef,undef,undef,undef,undef,undef,.agg #[.slice a1 p1.head.length m1,.int .i64 p1.frm,.int .i64 p1.period,.slice a2 p1.cycle.length m2],.bool true,.bool false,.bool false,.agg #[.slice a3 p2.head.length m3,.int .i64 p2.frm,.int .i64 p2.period,.slice a4 p2.cycle.length m4],.bool true,.bool false,.bool false,undef,.agg #[.slice a1 p1.head.length m1,.int .i64 p1.frm,.int .i64 p1.period,.slice a2 p1.cycle.length m2],.agg #[.slice a3 p2.head.length m3,.int .i64 p2.frm,.int .i64 p2.period,.slice a4 p2.cycle.length m4],pairV (.slice z1 qa.head.length y1) (.slice z2 qa.cycle.length y2) (.slice z3 qb.head.length y3) (.slice z4 qb.cycle.length y4) qa qb st (.slice xa (isort (cycL qa st)).length xc) (.slice ya (isort (cycL qb st)).length yc) g mb,.tuple #[.int .i64 L,.int .i64 0],.pointer (some ⟨pb,0,none⟩),.pointer (some ⟨pb,2,none⟩),.int .i64 qa.period,.pointer (some ⟨pb,4,none⟩),.pointer (some ⟨pb,6,none⟩),.int .i64 qb.period,.tuple #[.int .i64 L,.int .i64 0],.int .i64 L,.int .i64 0,.int .i64 0,.bool false,undef,.agg #[.slice z1 qa.head.length y1,.int .i64 qa.frm,.int .i64 qa.period,.slice z2 qa.cycle.length y2,.slice z3 qb.head.length y3,.int .i64 qb.frm,.int .i64 qb.period,.slice z4 qb.cycle.length y4,.int .i64 st,.slice xa (isort (cycL qa st)).length xc,.slice ya (isort (cycL qb st)).length yc,.int .i64 g,.map (some mb)],.slice hva HL.length hvc,.slice hva HL.length hvc,.int .i64 ↑HL.length,.agg #[.slice z1 qa.head.length y1,.int .i64 qa.frm,.int .i64 qa.period,.slice z2 qa.cycle.length y2,.slice z3 qb.head.length y3,.int .i64 qb.frm,.int .i64 qb.period,.slice z4 qb.cycle.length y4,.int .i64 st,.slice xa (isort (cycL qa st)).length xc,.slice ya (isort (cycL qb st)).length yc,.int .i64 g,.map (some mb)],.int .i64 ↑cn,.int .i64 (↑HL.length+↑cn),v 0,v 1,v 2,v 3,v 4,v 5,v 6,v 7,v 8,v 9,v 10,v 11,v 12,v 13,v 14,undef,undef,undef,undef,undef,undef,undef,undef,undef,undef,undef,undef,undef,undef,undef,undef,undef,undef,undef,undef,undef,undef,undef,undef,undef,undef,undef,undef,undef,undef,undef,undef,undef,undef,undef,undef,undef,undef,undef,undef,undef,undef,undef,undef,undef,undef,undef,undef,undef,undef,undef,undef,undef,undef,undef,undef,undef,undef,undef,undef,undef,undef,undef,undef,undef,undef,undef,undef,undef,undef,undef,undef,undef,undef,undef,undef,undef,undef,undef,undef,undef,undef,undef,undef,undef,undef,undef,undef,undef,undef,undef,undef,undef,undef,undef,undef,undef,undef],[]⟩) (fun _=>undef)
  (fun i v lo hi W=>match i with
   | 0=>v 0=.pointer (some ⟨pb,0,none⟩)
   | 1=>v 1=perV (.slice z1 qa.head.length y1) (.slice z2 qa.cycle.length y2) qa.frm qa.period
   | 2=>v 2=.pointer (some ⟨pb,8,none⟩)
   | 3=>v 3=.int .i64 st
   | 4=>v 4=.int .i64 bA
   | 5=>v 5=.pointer (some ⟨pb,9,none⟩)
   | 6=>v 6=.slice xa (isort (cycL qa st)).length xc
   | 7=>v 7=.int .i64 (isort (cycL qa st)).length
   | 8=>v 8=.int .i64 L
   | 9=>v 9=.pointer (some ⟨pb,0,none⟩)
   | 10=>v 10=.pointer (some ⟨pb,2,none⟩)
   | 11=>v 11=.int .i64 qa.period
   | 12=>v 12=.int .i64 RA
   | 13=>v 13=.int .i64 PA
   | 14=>v 14=.int .i64 (bA+PA)
   | 15=>v 15=.int .i64 (bA+PA)
   | _=>True)
  (fun W=>W.cell? ⟨pb,0,none⟩=some (.slice z1 qa.head.length y1)∧W.cell? ⟨pb,1,none⟩=some (.int .i64 qa.frm)∧W.cell? ⟨pb,2,none⟩=some (.int .i64 qa.period)∧W.cell? ⟨pb,3,none⟩=some (.slice z2 qa.cycle.length y2)∧W.cell? ⟨pb,8,none⟩=some (.int .i64 st)∧W.cell? ⟨pb,9,none⟩=some (.slice xa (isort (cycL qa st)).length xc)) rfl (by kernel_rfl) (by decide) rfl ?stab ?loc (fun W hb=>⟨cux d0 hb,cux d1 hb,cux d2 hb,cux d3 hb,cux d8 hb,cux d9 hb⟩) ?steps ?fin
 case stab=>
  rintro (_|_|_|_|_|_|_|_|_|_|_|_|_|_|_|_|i) v lo hi W W' h hb
  ·exact h
  ·exact h
  ·exact h
  ·exact h
  ·exact h
  ·exact h
  ·exact h
  ·exact h
  ·exact h
  ·exact h
  ·exact h
  ·exact h
  ·exact h
  ·exact h
  ·exact h
  ·exact h
  ·trivial
 case loc=>
  rintro (_|_|_|_|_|_|_|_|_|_|_|_|_|_|_|_|i) v v' lo lo' hi hi' W hag h
  ·have q:=hag 0 (.inl rfl)
   (try dsimp only at h ⊢);(try simp only [q.1,q.2.1,q.2.2] at h);exact h
  ·have q:=hag 1 (.inl rfl)
   have q0:=hag 0 (.inr (Rdp (by kernel_rfl)))
   (try dsimp only at h ⊢);(try simp only [q.1,q.2.1,q.2.2,q0.1,q0.2.1,q0.2.2] at h);exact h
  ·have q:=hag 2 (.inl rfl)
   (try dsimp only at h ⊢);(try simp only [q.1,q.2.1,q.2.2] at h);exact h
  ·have q:=hag 3 (.inl rfl)
   have q2:=hag 2 (.inr (Rdp (by kernel_rfl)))
   (try dsimp only at h ⊢);(try simp only [q.1,q.2.1,q.2.2,q2.1,q2.2.1,q2.2.2] at h);exact h
  ·have q:=hag 4 (.inl rfl)
   have q1:=hag 1 (.inr (Rdp (by kernel_rfl)))
   have q3:=hag 3 (.inr (Rdp (by kernel_rfl)))
   (try dsimp only at h ⊢);(try simp only [q.1,q.2.1,q.2.2,q1.1,q1.2.1,q1.2.2,q3.1,q3.2.1,q3.2.2] at h);exact h
  ·have q:=hag 5 (.inl rfl)
   (try dsimp only at h ⊢);(try simp only [q.1,q.2.1,q.2.2] at h);exact h
  ·have q:=hag 6 (.inl rfl)
   have q5:=hag 5 (.inr (Rdp (by kernel_rfl)))
   (try dsimp only at h ⊢);(try simp only [q.1,q.2.1,q.2.2,q5.1,q5.2.1,q5.2.2] at h);exact h
  ·have q:=hag 7 (.inl rfl)
   have q6:=hag 6 (.inr (Rdp (by kernel_rfl)))
   (try dsimp only at h ⊢);(try simp only [q.1,q.2.1,q.2.2,q6.1,q6.2.1,q6.2.2] at h);exact h
  ·have q:=hag 8 (.inl rfl)
   (try dsimp only at h ⊢);(try simp only [q.1,q.2.1,q.2.2] at h);exact h
  ·have q:=hag 9 (.inl rfl)
   (try dsimp only at h ⊢);(try simp only [q.1,q.2.1,q.2.2] at h);exact h
  ·have q:=hag 10 (.inl rfl)
   have q9:=hag 9 (.inr (Rdp (by kernel_rfl)))
   (try dsimp only at h ⊢);(try simp only [q.1,q.2.1,q.2.2,q9.1,q9.2.1,q9.2.2] at h);exact h
  ·have q:=hag 11 (.inl rfl)
   have q10:=hag 10 (.inr (Rdp (by kernel_rfl)))
   (try dsimp only at h ⊢);(try simp only [q.1,q.2.1,q.2.2,q10.1,q10.2.1,q10.2.2] at h);exact h
  ·have q:=hag 12 (.inl rfl)
   have q8:=hag 8 (.inr (Rdp (by kernel_rfl)))
   have q11:=hag 11 (.inr (Rdp (by kernel_rfl)))
   (try dsimp only at h ⊢);(try simp only [q.1,q.2.1,q.2.2,q8.1,q8.2.1,q8.2.2,q11.1,q11.2.1,q11.2.2] at h);exact h
  ·have q:=hag 13 (.inl rfl)
   have q7:=hag 7 (.inr (Rdp (by kernel_rfl)))
   have q12:=hag 12 (.inr (Rdp (by kernel_rfl)))
   (try dsimp only at h ⊢);(try simp only [q.1,q.2.1,q.2.2,q7.1,q7.2.1,q7.2.2,q12.1,q12.2.1,q12.2.2] at h);exact h
  ·have q:=hag 14 (.inl rfl)
   have q4:=hag 4 (.inr (Rdp (by kernel_rfl)))
   have q13:=hag 13 (.inr (Rdp (by kernel_rfl)))
   (try dsimp only at h ⊢);(try simp only [q.1,q.2.1,q.2.2,q4.1,q4.2.1,q4.2.2,q13.1,q13.2.1,q13.2.2] at h);exact h
  ·have q:=hag 15 (.inl rfl)
   have q0:=hag 0 (.inr (Rdp (by kernel_rfl)))
   have q1:=hag 1 (.inr (Rdp (by kernel_rfl)))
   have q2:=hag 2 (.inr (Rdp (by kernel_rfl)))
   have q3:=hag 3 (.inr (Rdp (by kernel_rfl)))
   have q4:=hag 4 (.inr (Rdp (by kernel_rfl)))
   have q5:=hag 5 (.inr (Rdp (by kernel_rfl)))
   have q6:=hag 6 (.inr (Rdp (by kernel_rfl)))
   have q7:=hag 7 (.inr (Rdp (by kernel_rfl)))
   have q8:=hag 8 (.inr (Rdp (by kernel_rfl)))
   have q9:=hag 9 (.inr (Rdp (by kernel_rfl)))
   have q10:=hag 10 (.inr (Rdp (by kernel_rfl)))
   have q11:=hag 11 (.inr (Rdp (by kernel_rfl)))
   have q12:=hag 12 (.inr (Rdp (by kernel_rfl)))
   have q13:=hag 13 (.inr (Rdp (by kernel_rfl)))
   have q14:=hag 14 (.inr (Rdp (by kernel_rfl)))
   (try dsimp only at h ⊢);(try simp only [q.1,q.2.1,q.2.2,q0.1,q0.2.1,q0.2.2,q1.1,q1.2.1,q1.2.2,q2.1,q2.2.1,q2.2.2,q3.1,q3.2.1,q3.2.2,q4.1,q4.2.1,q4.2.2,q5.1,q5.2.1,q5.2.2,q6.1,q6.2.1,q6.2.2,q7.1,q7.2.1,q7.2.2,q8.1,q8.2.1,q8.2.2,q9.1,q9.2.1,q9.2.2,q10.1,q10.2.1,q10.2.2,q11.1,q11.2.1,q11.2.2,q12.1,q12.2.1,q12.2.2,q13.1,q13.2.1,q13.2.2,q14.1,q14.2.1,q14.2.2] at h);exact h
  ·trivial
 case steps=>
  refine SFx.cons rfl ?_ (SFx.cons rfl ?_ (SFx.cons rfl ?_ (SFx.cons rfl ?_ (SFx.cons rfl ?_ (SFx.cons rfl ?_ (SFx.cons rfl ?_ (SFx.cons rfl ?_ (SFx.cons rfl ?_ (SFx.cons rfl ?_ (SFx.cons rfl ?_ (SFx.cons rfl ?_ (SFx.cons rfl ?_ (SFx.cons rfl ?_ (SFx.cons rfl ?_ (SFx.cons rfl ?_ SFx.nil)))))))))))))))
  ·rintro v lo hi W hb ⟨g0,g1,g2,g3,g8,g9⟩ hd K hK
   clear hd
   dsimp only
   go_wp2_with fail
   exact acx (hK (.pointer (some ⟨pb,0,none⟩)) W (Below.refl _ _) rfl) (by simp)
  ·rintro v lo hi W hb ⟨g0,g1,g2,g3,g8,g9⟩ hd K hK
   have e0:v 0=.pointer (some ⟨pb,0,none⟩):=(hd 0 (Rdp (by kernel_rfl))).2.2
   clear hd
   dsimp only
   (try simp only [e0])
   go_wp2_with fail
   exact acx (hK (perV (.slice z1 qa.head.length y1) (.slice z2 qa.cycle.length y2) qa.frm qa.period) W (Below.refl _ _) rfl) (by simp [e0])
  ·rintro v lo hi W hb ⟨g0,g1,g2,g3,g8,g9⟩ hd K hK
   clear hd
   dsimp only
   go_wp2_with fail
   exact acx (hK (.pointer (some ⟨pb,8,none⟩)) W (Below.refl _ _) rfl) (by simp)
  ·rintro v lo hi W hb ⟨g0,g1,g2,g3,g8,g9⟩ hd K hK
   have e2:v 2=.pointer (some ⟨pb,8,none⟩):=(hd 2 (Rdp (by kernel_rfl))).2.2
   clear hd
   dsimp only
   (try simp only [e2])
   go_wp2_with fail
   exact acx (hK (.int .i64 st) W (Below.refl _ _) rfl) (by simp [e2])
  ·rintro v lo hi W hb ⟨g0,g1,g2,g3,g8,g9⟩ hd K hK
   have e1:v 1=perV (.slice z1 qa.head.length y1) (.slice z2 qa.cycle.length y2) qa.frm qa.period:=(hd 1 (Rdp (by kernel_rfl))).2.2
   have e3:v 3=.int .i64 st:=(hd 3 (Rdp (by kernel_rfl))).2.2
   clear hd
   dsimp only
   (try simp only [e1,e3])
   go_wp2_with (go_at_call 85;refine (below_any _ _ qa st _ (HPA.out.a.ext (Et HE6.out hb)) HQA.out.wf (by omega) (by omega) (by omega) (by omega)).mono ?_;rintro e w7 ⟨he,hb7⟩;rw [← HBA.out] at he;subst he)
   exact acx (hK (.int .i64 bA) w7 hb7 rfl) (by simp [e1,e3])
  ·rintro v lo hi W hb ⟨g0,g1,g2,g3,g8,g9⟩ hd K hK
   clear hd
   dsimp only
   go_wp2_with fail
   exact acx (hK (.pointer (some ⟨pb,9,none⟩)) W (Below.refl _ _) rfl) (by simp)
  ·rintro v lo hi W hb ⟨g0,g1,g2,g3,g8,g9⟩ hd K hK
   have e5:v 5=.pointer (some ⟨pb,9,none⟩):=(hd 5 (Rdp (by kernel_rfl))).2.2
   clear hd
   dsimp only
   (try simp only [e5])
   go_wp2_with fail
   exact acx (hK (.slice xa (isort (cycL qa st)).length xc) W (Below.refl _ _) rfl) (by simp [e5])
  ·rintro v lo hi W hb ⟨g0,g1,g2,g3,g8,g9⟩ hd K hK
   have e6:v 6=.slice xa (isort (cycL qa st)).length xc:=(hd 6 (Rdp (by kernel_rfl))).2.2
   clear hd
   dsimp only
   (try simp only [e6])
   go_wp2_with fail
   exact acx (hK (.int .i64 (isort (cycL qa st)).length) W (Below.refl _ _) rfl) (by simp [e6])
  ·rintro v lo hi W hb ⟨g0,g1,g2,g3,g8,g9⟩ hd K hK
   clear hd
   dsimp only
   go_wp2_with fail
   exact acx (hK (.int .i64 L) W (Below.refl _ _) rfl) (by simp)
  ·rintro v lo hi W hb ⟨g0,g1,g2,g3,g8,g9⟩ hd K hK
   clear hd
   dsimp only
   go_wp2_with fail
   exact acx (hK (.pointer (some ⟨pb,0,none⟩)) W (Below.refl _ _) rfl) (by simp)
  ·rintro v lo hi W hb ⟨g0,g1,g2,g3,g8,g9⟩ hd K hK
   have e9:v 9=.pointer (some ⟨pb,0,none⟩):=(hd 9 (Rdp (by kernel_rfl))).2.2
   clear hd
   dsimp only
   (try simp only [e9])
   go_wp2_with fail
   exact acx (hK (.pointer (some ⟨pb,2,none⟩)) W (Below.refl _ _) rfl) (by simp [e9])
  ·rintro v lo hi W hb ⟨g0,g1,g2,g3,g8,g9⟩ hd K hK
   have e10:v 10=.pointer (some ⟨pb,2,none⟩):=(hd 10 (Rdp (by kernel_rfl))).2.2
   clear hd
   dsimp only
   (try simp only [e10])
   go_wp2_with fail
   exact acx (hK (.int .i64 qa.period) W (Below.refl _ _) rfl) (by simp [e10])
  ·rintro v lo hi W hb ⟨g0,g1,g2,g3,g8,g9⟩ hd K hK
   have e8:v 8=.int .i64 L:=(hd 8 (Rdp (by kernel_rfl))).2.2
   have e11:v 11=.int .i64 qa.period:=(hd 11 (Rdp (by kernel_rfl))).2.2
   clear hd
   dsimp only
   (try simp only [e8,e11])
   go_wp2_with fail
   exact acx (hK (.int .i64 (L / qa.period)) W (Below.refl _ _) (by simp [HRA.out])) (by simp [e8,e11])
  ·rintro v lo hi W hb ⟨g0,g1,g2,g3,g8,g9⟩ hd K hK
   have e7:v 7=.int .i64 (isort (cycL qa st)).length:=(hd 7 (Rdp (by kernel_rfl))).2.2
   have e12:v 12=.int .i64 RA:=(hd 12 (Rdp (by kernel_rfl))).2.2
   clear hd
   dsimp only
   (try simp only [e7,e12])
   go_wp2_with fail
   exact acx (hK (.int .i64 PA) W (Below.refl _ _) rfl) (by simp [e7,e12])
  ·rintro v lo hi W hb ⟨g0,g1,g2,g3,g8,g9⟩ hd K hK
   have e4:v 4=.int .i64 bA:=(hd 4 (Rdp (by kernel_rfl))).2.2
   have e13:v 13=.int .i64 PA:=(hd 13 (Rdp (by kernel_rfl))).2.2
   clear hd
   dsimp only
   (try simp only [e4,e13])
   go_wp2_with fail
   exact acx (hK (.int .i64 (bA+PA)) W (Below.refl _ _) rfl) (by simp [e4,e13])
  ·rintro v lo hi W hb ⟨g0,g1,g2,g3,g8,g9⟩ hd K hK
   have e0:v 0=.pointer (some ⟨pb,0,none⟩):=(hd 0 (Rdp (by kernel_rfl))).2.2
   have e1:v 1=perV (.slice z1 qa.head.length y1) (.slice z2 qa.cycle.length y2) qa.frm qa.period:=(hd 1 (Rdp (by kernel_rfl))).2.2
   have e2:v 2=.pointer (some ⟨pb,8,none⟩):=(hd 2 (Rdp (by kernel_rfl))).2.2
   have e3:v 3=.int .i64 st:=(hd 3 (Rdp (by kernel_rfl))).2.2
   have e4:v 4=.int .i64 bA:=(hd 4 (Rdp (by kernel_rfl))).2.2
   have e5:v 5=.pointer (some ⟨pb,9,none⟩):=(hd 5 (Rdp (by kernel_rfl))).2.2
   have e6:v 6=.slice xa (isort (cycL qa st)).length xc:=(hd 6 (Rdp (by kernel_rfl))).2.2
   have e7:v 7=.int .i64 (isort (cycL qa st)).length:=(hd 7 (Rdp (by kernel_rfl))).2.2
   have e8:v 8=.int .i64 L:=(hd 8 (Rdp (by kernel_rfl))).2.2
   have e9:v 9=.pointer (some ⟨pb,0,none⟩):=(hd 9 (Rdp (by kernel_rfl))).2.2
   have e10:v 10=.pointer (some ⟨pb,2,none⟩):=(hd 10 (Rdp (by kernel_rfl))).2.2
   have e11:v 11=.int .i64 qa.period:=(hd 11 (Rdp (by kernel_rfl))).2.2
   have e12:v 12=.int .i64 RA:=(hd 12 (Rdp (by kernel_rfl))).2.2
   have e13:v 13=.int .i64 PA:=(hd 13 (Rdp (by kernel_rfl))).2.2
   have e14:v 14=.int .i64 (bA+PA):=(hd 14 (Rdp (by kernel_rfl))).2.2
   clear hd
   dsimp only
   (try simp only [e0,e1,e2,e3,e4,e5,e6,e7,e8,e9,e10,e11,e12,e13,e14])
   go_wp2_with fail
   exact acx (hK (.int .i64 (bA+PA)) W (Below.refl _ _) rfl) (by simp [e0,e1,e2,e3,e4,e5,e6,e7,e8,e9,e10,e11,e12,e13,e14])
 case fin=>
  rintro v lo hi W7 hb7 _ hf _
  show wpList _ _ _ [] _ _
  have f13:v 15=.int .i64 (bA+PA):=(hf 15 rfl).2.2.2
  clear hf
  dsimp only
  rw [f13]
  clear f13
  generalize v 0=u54
  generalize v 1=u55
  generalize v 2=u56
  generalize v 3=u57
  generalize v 4=u58
  generalize v 5=u59
  generalize v 6=u60
  generalize v 7=u61
  generalize v 8=u62
  generalize v 9=u63
  generalize v 10=u64
  generalize v 11=u65
  generalize v 12=u66
  generalize v 13=u67
  generalize v 14=u68
  clear v
  have hE8:Below W3.heap.size W3 W7:=Et HE6.out hb7
  have hown8:=HOWN6.out.ext hb7
  have hpb8:=HPB.out.below hE8
  have hsz8:=hE8.size
  clear d0 d1 d2 d3 d4 d5 d6 d7 d8 d9 d10 d11 d12 hb7
  obtain ⟨w8,rfl⟩:∃ w8,w8=W7:=⟨_,rfl⟩
  have d0:w8.cell? ⟨pb,0,none⟩=some (.slice z1 qa.head.length y1):=(hpb8.cells 0).1
  have d1:w8.cell? ⟨pb,1,none⟩=some (.int .i64 qa.frm):=(hpb8.cells 1).1
  have d2:w8.cell? ⟨pb,2,none⟩=some (.int .i64 qa.period):=(hpb8.cells 2).1
  have d3:w8.cell? ⟨pb,3,none⟩=some (.slice z2 qa.cycle.length y2):=(hpb8.cells 3).1
  have d4:w8.cell? ⟨pb,4,none⟩=some (.slice z3 qb.head.length y3):=(hpb8.cells 4).1
  have d5:w8.cell? ⟨pb,5,none⟩=some (.int .i64 qb.frm):=(hpb8.cells 5).1
  have d6:w8.cell? ⟨pb,6,none⟩=some (.int .i64 qb.period):=(hpb8.cells 6).1
  have d7:w8.cell? ⟨pb,7,none⟩=some (.slice z4 qb.cycle.length y4):=(hpb8.cells 7).1
  have d8:w8.cell? ⟨pb,8,none⟩=some (.int .i64 st):=(hpb8.cells 8).1
  have d9:w8.cell? ⟨pb,9,none⟩=some (.slice xa (isort (cycL qa st)).length xc):=(hpb8.cells 9).1
  have d10:w8.cell? ⟨pb,10,none⟩=some (.slice ya (isort (cycL qb st)).length yc):=(hpb8.cells 10).1
  have d11:w8.cell? ⟨pb,11,none⟩=some (.int .i64 g):=(hpb8.cells 11).1
  have d12:w8.cell? ⟨pb,12,none⟩=some (.map (some mb)):=(hpb8.cells 12).1
  have HPB8:=Lib.hid hpb8
  have HOWN8:=Lib.hid hown8
  have HE8:=Lib.hid hE8
  clear hpb8 hown8 hE8 HPB6
  go_wp2_with fail
  refine wp_region_facts (w0:=w8) [0,1,2,3,4,5,6,7,8,9,10,11,12,13,14,15] [] (fun v=>⟨#[perV (.slice a1 p1.head.length m1) (.slice a2 p1.cycle.length m2) p1.frm p1.period,perV (.slice a3 p2.head.length m3) (.slice a4 p2.cycle.length m4) p2.frm p2.period,.int .i64 0,.pointer (some ⟨w.heap.size,0,none⟩),.pointer (some ⟨w.heap.size+1,0,none⟩),undef,.pointer (some ⟨w.heap.size+1+1,0,none⟩),.int .i64 0,.pointer (some ⟨pb,0,none⟩),.int .i64 L,.int .i64 0,.slice hva HL.length hvc,.int .i64 (↑HL.length+↑cn),.int .i64 (bA+PA),v 15,undef,undef,undef,undef,undef,undef,undef,.agg #[.slice a1 p1.head.length m1,.int .i64 p1.frm,.int .i64 p1.period,.slice a2 p1.cycle.length m2],.bool true,.bool false,.bool false,.agg #[.slice a3 p2.head.length m3,.int .i64 p2.frm,.int .i64 p2.period,.slice a4 p2.cycle.length m4],.bool true,.bool false,.bool false,undef,.agg #[.slice a1 p1.head.length m1,.int .i64 p1.frm,.int .i64 p1.period,.slice a2 p1.cycle.length m2],.agg #[.slice a3 p2.head.length m3,.int .i64 p2.frm,.int .i64 p2.period,.slice a4 p2.cycle.length m4],pairV (.slice z1 qa.head.length y1) (.slice z2 qa.cycle.length y2) (.slice z3 qb.head.length y3) (.slice z4 qb.cycle.length y4) qa qb st (.slice xa (isort (cycL qa st)).length xc) (.slice ya (isort (cycL qb st)).length yc) g mb,.tuple #[.int .i64 L,.int .i64 0],.pointer (some ⟨pb,0,none⟩),.pointer (some ⟨pb,2,none⟩),.int .i64 qa.period,.pointer (some ⟨pb,4,none⟩),.pointer (some ⟨pb,6,none⟩),.int .i64 qb.period,.tuple #[.int .i64 L,.int .i64 0],.int .i64 L,.int .i64 0,.int .i64 0,.bool false,undef,.agg #[.slice z1 qa.head.length y1,.int .i64 qa.frm,.int .i64 qa.period,.slice z2 qa.cycle.length y2,.slice z3 qb.head.length y3,.int .i64 qb.frm,.int .i64 qb.period,.slice z4 qb.cycle.length y4,.int .i64 st,.slice xa (isort (cycL qa st)).length xc,.slice ya (isort (cycL qb st)).length yc,.int .i64 g,.map (some mb)],.slice hva HL.length hvc,.slice hva HL.length hvc,.int .i64 ↑HL.length,.agg #[.slice z1 qa.head.length y1,.int .i64 qa.frm,.int .i64 qa.period,.slice z2 qa.cycle.length y2,.slice z3 qb.head.length y3,.int .i64 qb.frm,.int .i64 qb.period,.slice z4 qb.cycle.length y4,.int .i64 st,.slice xa (isort (cycL qa st)).length xc,.slice ya (isort (cycL qb st)).length yc,.int .i64 g,.map (some mb)],.int .i64 ↑cn,.int .i64 (↑HL.length+↑cn),u54,u55,u56,u57,u58,u59,u60,u61,u62,u63,u64,u65,u66,u67,u68,v 0,v 1,v 2,v 3,v 4,v 5,v 6,v 7,v 8,v 9,v 10,v 11,v 12,v 13,v 14,undef,undef,undef,undef,undef,undef,undef,undef,undef,undef,undef,undef,undef,undef,undef,undef,undef,undef,undef,undef,undef,undef,undef,undef,undef,undef,undef,undef,undef,undef,undef,undef,undef,undef,undef,undef,undef,undef,undef,undef,undef,undef,undef,undef,undef,undef,undef,undef,undef,undef,undef,undef,undef,undef,undef,undef,undef,undef,undef,undef,undef,undef,undef,undef,undef,undef,undef,undef,undef,undef,undef,undef,undef,undef,undef,undef,undef,undef,undef,undef,undef,undef,undef],[]⟩) (fun _=>undef)
   (fun i v lo hi W=>match i with
    | 0=>v 0=.pointer (some ⟨pb,4,none⟩)
    | 1=>v 1=perV (.slice z3 qb.head.length y3) (.slice z4 qb.cycle.length y4) qb.frm qb.period
    | 2=>v 2=.pointer (some ⟨pb,8,none⟩)
    | 3=>v 3=.int .i64 st
    | 4=>v 4=.int .i64 bB
    | 5=>v 5=.pointer (some ⟨pb,10,none⟩)
    | 6=>v 6=.slice ya (isort (cycL qb st)).length yc
    | 7=>v 7=.int .i64 (isort (cycL qb st)).length
    | 8=>v 8=.int .i64 L
    | 9=>v 9=.pointer (some ⟨pb,4,none⟩)
    | 10=>v 10=.pointer (some ⟨pb,6,none⟩)
    | 11=>v 11=.int .i64 qb.period
    | 12=>v 12=.int .i64 RB
    | 13=>v 13=.int .i64 PB
    | 14=>v 14=.int .i64 (bB+PB)
    | 15=>v 15=.int .i64 (bB+PB)
    | _=>True)
   (fun W=>W.cell? ⟨pb,4,none⟩=some (.slice z3 qb.head.length y3)∧W.cell? ⟨pb,5,none⟩=some (.int .i64 qb.frm)∧W.cell? ⟨pb,6,none⟩=some (.int .i64 qb.period)∧W.cell? ⟨pb,7,none⟩=some (.slice z4 qb.cycle.length y4)∧W.cell? ⟨pb,8,none⟩=some (.int .i64 st)∧W.cell? ⟨pb,10,none⟩=some (.slice ya (isort (cycL qb st)).length yc)) rfl (by kernel_rfl) (by decide) rfl ?stab ?loc (fun W hb=>⟨cux d4 hb,cux d5 hb,cux d6 hb,cux d7 hb,cux d8 hb,cux d10 hb⟩) ?steps ?fin
  case stab=>
   rintro (_|_|_|_|_|_|_|_|_|_|_|_|_|_|_|_|i) v lo hi W W' h hb
   ·exact h
   ·exact h
   ·exact h
   ·exact h
   ·exact h
   ·exact h
   ·exact h
   ·exact h
   ·exact h
   ·exact h
   ·exact h
   ·exact h
   ·exact h
   ·exact h
   ·exact h
   ·exact h
   ·trivial
  case loc=>
   rintro (_|_|_|_|_|_|_|_|_|_|_|_|_|_|_|_|i) v v' lo lo' hi hi' W hag h
   ·have q:=hag 0 (.inl rfl)
    (try dsimp only at h ⊢);(try simp only [q.1,q.2.1,q.2.2] at h);exact h
   ·have q:=hag 1 (.inl rfl)
    have q0:=hag 0 (.inr (Rdp (by kernel_rfl)))
    (try dsimp only at h ⊢);(try simp only [q.1,q.2.1,q.2.2,q0.1,q0.2.1,q0.2.2] at h);exact h
   ·have q:=hag 2 (.inl rfl)
    (try dsimp only at h ⊢);(try simp only [q.1,q.2.1,q.2.2] at h);exact h
   ·have q:=hag 3 (.inl rfl)
    have q2:=hag 2 (.inr (Rdp (by kernel_rfl)))
    (try dsimp only at h ⊢);(try simp only [q.1,q.2.1,q.2.2,q2.1,q2.2.1,q2.2.2] at h);exact h
   ·have q:=hag 4 (.inl rfl)
    have q1:=hag 1 (.inr (Rdp (by kernel_rfl)))
    have q3:=hag 3 (.inr (Rdp (by kernel_rfl)))
    (try dsimp only at h ⊢);(try simp only [q.1,q.2.1,q.2.2,q1.1,q1.2.1,q1.2.2,q3.1,q3.2.1,q3.2.2] at h);exact h
   ·have q:=hag 5 (.inl rfl)
    (try dsimp only at h ⊢);(try simp only [q.1,q.2.1,q.2.2] at h);exact h
   ·have q:=hag 6 (.inl rfl)
    have q5:=hag 5 (.inr (Rdp (by kernel_rfl)))
    (try dsimp only at h ⊢);(try simp only [q.1,q.2.1,q.2.2,q5.1,q5.2.1,q5.2.2] at h);exact h
   ·have q:=hag 7 (.inl rfl)
    have q6:=hag 6 (.inr (Rdp (by kernel_rfl)))
    (try dsimp only at h ⊢);(try simp only [q.1,q.2.1,q.2.2,q6.1,q6.2.1,q6.2.2] at h);exact h
   ·have q:=hag 8 (.inl rfl)
    (try dsimp only at h ⊢);(try simp only [q.1,q.2.1,q.2.2] at h);exact h
   ·have q:=hag 9 (.inl rfl)
    (try dsimp only at h ⊢);(try simp only [q.1,q.2.1,q.2.2] at h);exact h
   ·have q:=hag 10 (.inl rfl)
    have q9:=hag 9 (.inr (Rdp (by kernel_rfl)))
    (try dsimp only at h ⊢);(try simp only [q.1,q.2.1,q.2.2,q9.1,q9.2.1,q9.2.2] at h);exact h
   ·have q:=hag 11 (.inl rfl)
    have q10:=hag 10 (.inr (Rdp (by kernel_rfl)))
    (try dsimp only at h ⊢);(try simp only [q.1,q.2.1,q.2.2,q10.1,q10.2.1,q10.2.2] at h);exact h
   ·have q:=hag 12 (.inl rfl)
    have q8:=hag 8 (.inr (Rdp (by kernel_rfl)))
    have q11:=hag 11 (.inr (Rdp (by kernel_rfl)))
    (try dsimp only at h ⊢);(try simp only [q.1,q.2.1,q.2.2,q8.1,q8.2.1,q8.2.2,q11.1,q11.2.1,q11.2.2] at h);exact h
   ·have q:=hag 13 (.inl rfl)
    have q7:=hag 7 (.inr (Rdp (by kernel_rfl)))
    have q12:=hag 12 (.inr (Rdp (by kernel_rfl)))
    (try dsimp only at h ⊢);(try simp only [q.1,q.2.1,q.2.2,q7.1,q7.2.1,q7.2.2,q12.1,q12.2.1,q12.2.2] at h);exact h
   ·have q:=hag 14 (.inl rfl)
    have q4:=hag 4 (.inr (Rdp (by kernel_rfl)))
    have q13:=hag 13 (.inr (Rdp (by kernel_rfl)))
    (try dsimp only at h ⊢);(try simp only [q.1,q.2.1,q.2.2,q4.1,q4.2.1,q4.2.2,q13.1,q13.2.1,q13.2.2] at h);exact h
   ·have q:=hag 15 (.inl rfl)
    have q0:=hag 0 (.inr (Rdp (by kernel_rfl)))
    have q1:=hag 1 (.inr (Rdp (by kernel_rfl)))
    have q2:=hag 2 (.inr (Rdp (by kernel_rfl)))
    have q3:=hag 3 (.inr (Rdp (by kernel_rfl)))
    have q4:=hag 4 (.inr (Rdp (by kernel_rfl)))
    have q5:=hag 5 (.inr (Rdp (by kernel_rfl)))
    have q6:=hag 6 (.inr (Rdp (by kernel_rfl)))
    have q7:=hag 7 (.inr (Rdp (by kernel_rfl)))
    have q8:=hag 8 (.inr (Rdp (by kernel_rfl)))
    have q9:=hag 9 (.inr (Rdp (by kernel_rfl)))
    have q10:=hag 10 (.inr (Rdp (by kernel_rfl)))
    have q11:=hag 11 (.inr (Rdp (by kernel_rfl)))
    have q12:=hag 12 (.inr (Rdp (by kernel_rfl)))
    have q13:=hag 13 (.inr (Rdp (by kernel_rfl)))
    have q14:=hag 14 (.inr (Rdp (by kernel_rfl)))
    (try dsimp only at h ⊢);(try simp only [q.1,q.2.1,q.2.2,q0.1,q0.2.1,q0.2.2,q1.1,q1.2.1,q1.2.2,q2.1,q2.2.1,q2.2.2,q3.1,q3.2.1,q3.2.2,q4.1,q4.2.1,q4.2.2,q5.1,q5.2.1,q5.2.2,q6.1,q6.2.1,q6.2.2,q7.1,q7.2.1,q7.2.2,q8.1,q8.2.1,q8.2.2,q9.1,q9.2.1,q9.2.2,q10.1,q10.2.1,q10.2.2,q11.1,q11.2.1,q11.2.2,q12.1,q12.2.1,q12.2.2,q13.1,q13.2.1,q13.2.2,q14.1,q14.2.1,q14.2.2] at h);exact h
   ·trivial
  case steps=>
   refine SFx.cons rfl ?_ (SFx.cons rfl ?_ (SFx.cons rfl ?_ (SFx.cons rfl ?_ (SFx.cons rfl ?_ (SFx.cons rfl ?_ (SFx.cons rfl ?_ (SFx.cons rfl ?_ (SFx.cons rfl ?_ (SFx.cons rfl ?_ (SFx.cons rfl ?_ (SFx.cons rfl ?_ (SFx.cons rfl ?_ (SFx.cons rfl ?_ (SFx.cons rfl ?_ (SFx.cons rfl ?_ SFx.nil)))))))))))))))
   ·rintro v lo hi W hb ⟨g4,g5,g6,g7,g8,g10⟩ hd K hK
    clear hd
    dsimp only
    go_wp2_with fail
    exact acx (hK (.pointer (some ⟨pb,4,none⟩)) W (Below.refl _ _) rfl) (by simp)
   ·rintro v lo hi W hb ⟨g4,g5,g6,g7,g8,g10⟩ hd K hK
    have e0:v 0=.pointer (some ⟨pb,4,none⟩):=(hd 0 (Rdp (by kernel_rfl))).2.2
    clear hd
    dsimp only
    (try simp only [e0])
    go_wp2_with fail
    exact acx (hK (perV (.slice z3 qb.head.length y3) (.slice z4 qb.cycle.length y4) qb.frm qb.period) W (Below.refl _ _) rfl) (by simp [e0])
   ·rintro v lo hi W hb ⟨g4,g5,g6,g7,g8,g10⟩ hd K hK
    clear hd
    dsimp only
    go_wp2_with fail
    exact acx (hK (.pointer (some ⟨pb,8,none⟩)) W (Below.refl _ _) rfl) (by simp)
   ·rintro v lo hi W hb ⟨g4,g5,g6,g7,g8,g10⟩ hd K hK
    have e2:v 2=.pointer (some ⟨pb,8,none⟩):=(hd 2 (Rdp (by kernel_rfl))).2.2
    clear hd
    dsimp only
    (try simp only [e2])
    go_wp2_with fail
    exact acx (hK (.int .i64 st) W (Below.refl _ _) rfl) (by simp [e2])
   ·rintro v lo hi W hb ⟨g4,g5,g6,g7,g8,g10⟩ hd K hK
    have e1:v 1=perV (.slice z3 qb.head.length y3) (.slice z4 qb.cycle.length y4) qb.frm qb.period:=(hd 1 (Rdp (by kernel_rfl))).2.2
    have e3:v 3=.int .i64 st:=(hd 3 (Rdp (by kernel_rfl))).2.2
    clear hd
    dsimp only
    (try simp only [e1,e3])
    go_wp2_with (go_at_call 85;refine (below_any _ _ qb st _ (HPA.out.b.ext (Et HE8.out hb)) HQB.out.wf (by omega) (by omega) (by omega) (by omega)).mono ?_;rintro e w7 ⟨he,hb7⟩;rw [← HBB.out] at he;subst he)
    exact acx (hK (.int .i64 bB) w7 hb7 rfl) (by simp [e1,e3])
   ·rintro v lo hi W hb ⟨g4,g5,g6,g7,g8,g10⟩ hd K hK
    clear hd
    dsimp only
    go_wp2_with fail
    exact acx (hK (.pointer (some ⟨pb,10,none⟩)) W (Below.refl _ _) rfl) (by simp)
   ·rintro v lo hi W hb ⟨g4,g5,g6,g7,g8,g10⟩ hd K hK
    have e5:v 5=.pointer (some ⟨pb,10,none⟩):=(hd 5 (Rdp (by kernel_rfl))).2.2
    clear hd
    dsimp only
    (try simp only [e5])
    go_wp2_with fail
    exact acx (hK (.slice ya (isort (cycL qb st)).length yc) W (Below.refl _ _) rfl) (by simp [e5])
   ·rintro v lo hi W hb ⟨g4,g5,g6,g7,g8,g10⟩ hd K hK
    have e6:v 6=.slice ya (isort (cycL qb st)).length yc:=(hd 6 (Rdp (by kernel_rfl))).2.2
    clear hd
    dsimp only
    (try simp only [e6])
    go_wp2_with fail
    exact acx (hK (.int .i64 (isort (cycL qb st)).length) W (Below.refl _ _) rfl) (by simp [e6])
   ·rintro v lo hi W hb ⟨g4,g5,g6,g7,g8,g10⟩ hd K hK
    clear hd
    dsimp only
    go_wp2_with fail
    exact acx (hK (.int .i64 L) W (Below.refl _ _) rfl) (by simp)
   ·rintro v lo hi W hb ⟨g4,g5,g6,g7,g8,g10⟩ hd K hK
    clear hd
    dsimp only
    go_wp2_with fail
    exact acx (hK (.pointer (some ⟨pb,4,none⟩)) W (Below.refl _ _) rfl) (by simp)
   ·rintro v lo hi W hb ⟨g4,g5,g6,g7,g8,g10⟩ hd K hK
    have e9:v 9=.pointer (some ⟨pb,4,none⟩):=(hd 9 (Rdp (by kernel_rfl))).2.2
    clear hd
    dsimp only
    (try simp only [e9])
    go_wp2_with fail
    exact acx (hK (.pointer (some ⟨pb,6,none⟩)) W (Below.refl _ _) rfl) (by simp [e9])
   ·rintro v lo hi W hb ⟨g4,g5,g6,g7,g8,g10⟩ hd K hK
    have e10:v 10=.pointer (some ⟨pb,6,none⟩):=(hd 10 (Rdp (by kernel_rfl))).2.2
    clear hd
    dsimp only
    (try simp only [e10])
    go_wp2_with fail
    exact acx (hK (.int .i64 qb.period) W (Below.refl _ _) rfl) (by simp [e10])
   ·rintro v lo hi W hb ⟨g4,g5,g6,g7,g8,g10⟩ hd K hK
    have e8:v 8=.int .i64 L:=(hd 8 (Rdp (by kernel_rfl))).2.2
    have e11:v 11=.int .i64 qb.period:=(hd 11 (Rdp (by kernel_rfl))).2.2
    clear hd
    dsimp only
    (try simp only [e8,e11])
    go_wp2_with fail
    exact acx (hK (.int .i64 (L / qb.period)) W (Below.refl _ _) (by simp [HRB9.out])) (by simp [e8,e11])
   ·rintro v lo hi W hb ⟨g4,g5,g6,g7,g8,g10⟩ hd K hK
    have e7:v 7=.int .i64 (isort (cycL qb st)).length:=(hd 7 (Rdp (by kernel_rfl))).2.2
    have e12:v 12=.int .i64 RB:=(hd 12 (Rdp (by kernel_rfl))).2.2
    clear hd
    dsimp only
    (try simp only [e7,e12])
    go_wp2_with fail
    exact acx (hK (.int .i64 PB) W (Below.refl _ _) rfl) (by simp [e7,e12])
   ·rintro v lo hi W hb ⟨g4,g5,g6,g7,g8,g10⟩ hd K hK
    have e4:v 4=.int .i64 bB:=(hd 4 (Rdp (by kernel_rfl))).2.2
    have e13:v 13=.int .i64 PB:=(hd 13 (Rdp (by kernel_rfl))).2.2
    clear hd
    dsimp only
    (try simp only [e4,e13])
    go_wp2_with fail
    exact acx (hK (.int .i64 (bB+PB)) W (Below.refl _ _) rfl) (by simp [e4,e13])
   ·rintro v lo hi W hb ⟨g4,g5,g6,g7,g8,g10⟩ hd K hK
    have e0:v 0=.pointer (some ⟨pb,4,none⟩):=(hd 0 (Rdp (by kernel_rfl))).2.2
    have e1:v 1=perV (.slice z3 qb.head.length y3) (.slice z4 qb.cycle.length y4) qb.frm qb.period:=(hd 1 (Rdp (by kernel_rfl))).2.2
    have e2:v 2=.pointer (some ⟨pb,8,none⟩):=(hd 2 (Rdp (by kernel_rfl))).2.2
    have e3:v 3=.int .i64 st:=(hd 3 (Rdp (by kernel_rfl))).2.2
    have e4:v 4=.int .i64 bB:=(hd 4 (Rdp (by kernel_rfl))).2.2
    have e5:v 5=.pointer (some ⟨pb,10,none⟩):=(hd 5 (Rdp (by kernel_rfl))).2.2
    have e6:v 6=.slice ya (isort (cycL qb st)).length yc:=(hd 6 (Rdp (by kernel_rfl))).2.2
    have e7:v 7=.int .i64 (isort (cycL qb st)).length:=(hd 7 (Rdp (by kernel_rfl))).2.2
    have e8:v 8=.int .i64 L:=(hd 8 (Rdp (by kernel_rfl))).2.2
    have e9:v 9=.pointer (some ⟨pb,4,none⟩):=(hd 9 (Rdp (by kernel_rfl))).2.2
    have e10:v 10=.pointer (some ⟨pb,6,none⟩):=(hd 10 (Rdp (by kernel_rfl))).2.2
    have e11:v 11=.int .i64 qb.period:=(hd 11 (Rdp (by kernel_rfl))).2.2
    have e12:v 12=.int .i64 RB:=(hd 12 (Rdp (by kernel_rfl))).2.2
    have e13:v 13=.int .i64 PB:=(hd 13 (Rdp (by kernel_rfl))).2.2
    have e14:v 14=.int .i64 (bB+PB):=(hd 14 (Rdp (by kernel_rfl))).2.2
    clear hd
    dsimp only
    (try simp only [e0,e1,e2,e3,e4,e5,e6,e7,e8,e9,e10,e11,e12,e13,e14])
    go_wp2_with fail
    exact acx (hK (.int .i64 (bB+PB)) W (Below.refl _ _) rfl) (by simp [e0,e1,e2,e3,e4,e5,e6,e7,e8,e9,e10,e11,e12,e13,e14])
  case fin=>
   rintro v lo hi W10 hb10 _ hf _
   show wpList _ _ _ [] _ _
   have f13:v 15=.int .i64 (bB+PB):=(hf 15 rfl).2.2.2
   clear hf
   dsimp only
   rw [f13]
   clear f13
   generalize v 0=t54
   generalize v 1=t55
   generalize v 2=t56
   generalize v 3=t57
   generalize v 4=t58
   generalize v 5=t59
   generalize v 6=t60
   generalize v 7=t61
   generalize v 8=t62
   generalize v 9=t63
   generalize v 10=t64
   generalize v 11=t65
   generalize v 12=t66
   generalize v 13=t67
   generalize v 14=t68
   clear v
   have hE10:Below W3.heap.size W3 W10:=Et HE8.out hb10
   have hown10:=HOWN8.out.ext hb10
   have hpb10:=HPB.out.below hE10
   have hsz10:=hE10.size
   clear d0 d1 d2 d3 d4 d5 d6 d7 d8 d9 d10 d11 d12 hb10
   obtain ⟨w10,rfl⟩:∃ w10,w10=W10:=⟨_,rfl⟩
   have HOWN10:=Lib.hid hown10
   have HE10:=Lib.hid hE10
   have d0:w10.cell? ⟨pb,0,none⟩=some (.slice z1 qa.head.length y1):=(hpb10.cells 0).1
   have d1:w10.cell? ⟨pb,1,none⟩=some (.int .i64 qa.frm):=(hpb10.cells 1).1
   have d2:w10.cell? ⟨pb,2,none⟩=some (.int .i64 qa.period):=(hpb10.cells 2).1
   have d3:w10.cell? ⟨pb,3,none⟩=some (.slice z2 qa.cycle.length y2):=(hpb10.cells 3).1
   have d4:w10.cell? ⟨pb,4,none⟩=some (.slice z3 qb.head.length y3):=(hpb10.cells 4).1
   have d5:w10.cell? ⟨pb,5,none⟩=some (.int .i64 qb.frm):=(hpb10.cells 5).1
   have d6:w10.cell? ⟨pb,6,none⟩=some (.int .i64 qb.period):=(hpb10.cells 6).1
   have d7:w10.cell? ⟨pb,7,none⟩=some (.slice z4 qb.cycle.length y4):=(hpb10.cells 7).1
   have d8:w10.cell? ⟨pb,8,none⟩=some (.int .i64 st):=(hpb10.cells 8).1
   have d9:w10.cell? ⟨pb,9,none⟩=some (.slice xa (isort (cycL qa st)).length xc):=(hpb10.cells 9).1
   have d10:w10.cell? ⟨pb,10,none⟩=some (.slice ya (isort (cycL qb st)).length yc):=(hpb10.cells 10).1
   have d11:w10.cell? ⟨pb,11,none⟩=some (.int .i64 g):=(hpb10.cells 11).1
   have d12:w10.cell? ⟨pb,12,none⟩=some (.map (some mb)):=(hpb10.cells 12).1
   have HPB10:=Lib.hid hpb10
   have hpl10:pb<w10.heap.size:=by have:=HZ3.out;omega
   clear hpb10 hown10 hE10 HPB8
   have hn0:(0:Int)≤(HL.length:Int)+cn:=by omega
   have hmx:max qa.frm qb.frm=st:=by have:=HSTT.out;omega
   rw [hmx] at hcn
   have hn1:(HL.length:Int)+cn≤1048576:=by have:=HFA.out.n;rw [← HHL.out,← HCN.out] at this;omega
   have hn2:HL.length+cn≤1048576:=by omega
   have hnb:decide ((1048576:Int)<(HL.length:Int)+(cn:Int))=false:=by rw [decide_eq_false_iff_not];omega
   clear hmx hcn
   have hpbm:=HP.out.pairB (base:=W3.heap.size) (by have:=HZ3.out;omega)
   rw [HG.out] at hpbm
   have HPBM:=Lib.hid hpbm
   have hlm:HL.length+(meetL (isort (cycL qa st)) (isort (cycL qb st)) qa.period qb.period st).length≤4398046511104:=by
    rw [← HFA.out.com,← HCN.out];omega
   have HLM:=Lib.hid hlm
   have HLB:Hid (lcmI qa.period qb.period≤1099511627776):=Lib.hid (by rw [HLL.out];exact hL)
   clear hpbm hlm
   go_upto_region 22 with (go_at_call 150;refine (meet_any _ _ _ _ qa qb st _ _ g mb W3.heap.size _ HL _ (HPBM.out.below ((HE10.out.alloc (by omega) _).mono (by omega))) HG.out.symm za1 hpa zb1 hpb HLB.out (by omega) (by omega) HFA.out.hx HFA.out.hy (HOWN10.out.ext (Ea (Er _) _)) (by simp;omega) HLM.out).mono ?_;rintro e w11 ⟨v11,rfl,hown11,hb11⟩;obtain ⟨LL,hLL9⟩:∃ LL,LL=HL ++ meetL (isort (cycL qa st)) (isort (cycL qb st)) qa.period qb.period st:=⟨_,rfl⟩;rw [← hLL9] at hown11;have HLLQ:=Lib.hid hLL9;clear hLL9;obtain ⟨va,vc,rfl⟩:=hown11.form)
   have hsz11:W3.heap.size≤w11.heap.size:=by have h:=hb11.size;simp at h;omega
   have HEB:Hid (Below W3.heap.size W3 w11):=Lib.hid (((HE10.out.alloc (by omega) _)).trans hb11)
   have HUP:Hid (PFrom (fun n=>p1.mem n∧p2.mem n) st L):=Lib.hid (by
    have h1:=(HQA.out.pfrom.mono hs1).of_dvd za1 hL0 (by rw [← HLL.out];exact lcmI_dvd_left)
    have h2:=(HQB.out.pfrom.mono hs2).of_dvd zb1 hL0 (by rw [← HLL.out];exact lcmI_dvd_right)
    intro n hn
    exact ⟨fun h=>⟨(h1 n hn).1 h.1,(h2 n hn).1 h.2⟩,fun h=>⟨(h1 n hn).2 h.1,(h2 n hn).2 h.2⟩⟩)
   have HMEM:Hid (∀ x,x∈LL↔x∈sel (fun n=>p1.mem n∧p2.mem n) 0 (st+L)):=Lib.hid (fun x=>by
    rw [HLLQ.out,List.mem_append,HHL.out,HFA.out.headsEq,HFA.out.meet,sel_mem (Int.le_refl _),sel_mem (Int.le_refl _)]
    constructor
    ·rintro (⟨h1,h2,h3⟩|⟨h1,h2,h3⟩)
     ·exact ⟨h1,by omega,h3⟩
     ·exact ⟨by omega,h2,h3⟩
    ·rintro ⟨h1,h2,h3⟩
     by_cases hx:x<st
     ·exact .inl ⟨h1,hx,h3⟩
     ·exact .inr ⟨by omega,h2,h3⟩)
   go_upto_region 24 with ((first|(go_at_call 132;refine (sort_any _ LL W3.heap.size _ hown11).mono ?_;rintro e w12 ⟨rfl,hown12,hg12⟩;have hb12:=hown11.below_grown (W0:=w11) (.inr trivial) (by omega) hg12;have hsz12:=hg12.size)|(go_at_call 154;refine (compact_any _ (isort LL) W3.heap.size _ hown12).mono ?_;rintro e w13 ⟨v13,rfl,hown13,hg13,_⟩;have hb13:=hown12.below_grown (W0:=w12) (.inr trivial) (by omega) hg13;have hsz13:=hg13.size;rw [compact_isort (sel_rise (Int.le_refl 0)).1 HMEM.out] at hown13;obtain ⟨SL,hSL⟩:∃ SL,SL=sel (fun n=>p1.mem n∧p2.mem n) 0 (st+L):=⟨_,rfl⟩;rw [← hSL] at hown13;have HSL:=Lib.hid hSL;clear hSL;obtain ⟨va3,vc3,rfl⟩:=hown13.form)))
   have hL9:1≤L:=hL0
   have hcp:=sel_countP (U:=fun n=>p1.mem n∧p2.mem n) (show 0≤st by omega) (show st≤st+L by omega)
   rw [← HSL.out] at hcp
   obtain ⟨i0,hi0⟩:∃ i0,i0=(sel (fun n=>p1.mem n∧p2.mem n) 0 st).length:=⟨_,rfl⟩
   rw [← hi0] at hcp
   have HI0:=Lib.hid hi0
   have HCP:=Lib.hid hcp
   have hSLs:SL.Pairwise (· < ·):=by rw [HSL.out];exact (sel_rise (Int.le_refl 0)).1
   have HSLS:=Lib.hid hSLs
   have hi0l:i0≤SL.length:=by have:=HCP.out.2.1;have h2:=congrArg List.length this;rw [List.length_take,← HI0.out] at h2;omega
   have hsll:(SL.length:Int)≤st+L:=by have:=(sel_rise (S:=fun n=>p1.mem n∧p2.mem n) (lo:=0) (hi:=st+L) (Int.le_refl 0)).length_le (by omega);rw [← HSL.out] at this;omega
   have hints13:=hown13.ints
   have HIN13:=Lib.hid hints13
   obtain ⟨b3',hb3',hcap3⟩:∃ c',vc3=c'∧SL.length≤c':=by
    obtain ⟨⟨a,c,e,h1,h2,_⟩,_,_⟩:=hints13
    injection e with _ _ e3
    exact ⟨c,e3,h1⟩
   rw [← hb3'] at hcap3
   obtain ⟨ha',hrun',hint'⟩:=slice_head (a:=va3) (c:=vc3) SL hi0l hcap3
   obtain ⟨da',drun',dint',_⟩:=slice_from (a:=va3) (c:=vc3) SL hi0l
   have HINT':=Lib.hid hint'
   have HDINT':=Lib.hid dint'
   have hbB:Below W3.heap.size W3 w13:=(HEB.out).trans (hb12.trans hb13)
   have HBB13:=Lib.hid hbB
   have HOWN13:=Lib.hid hown13
   have hpb13:=HPB.out.below hbB
   have m8:w13.cell? ⟨pb,8,none⟩=some (.int .i64 st):=(hpb13.cells 8).1
   have hinn13:=hown13.inn
   have HINN13:=Lib.hid hinn13
   clear hi0 hcp hSLs hints13 hb3' hint' dint' hbB hown13 hown12 hg12 hg13 hpb13 hinn13
   clear d0 d1 d2 d3 d4 d5 d6 d7 d8 d9 d10 d11 d12
   go_upto_region 25 with (go_at_call 128;refine (search_any _ SL st _ HIN13.out HSLS.out).mono ?_;rintro e w14 ⟨he,nq14,rfl⟩;rw [HCP.out.1] at he;generalize decide (st∈SL)=dB at he;subst he)
   obtain ⟨w14,hw14⟩:∃ w14,w14=w13.drewN nq14:=⟨_,rfl⟩
   rw [← hw14]
   have hE14:Below W3.heap.size W3 w14:=by rw [hw14];exact HBB13.out.trans (Below.drewN (Below.refl _ _) _)
   have hin14:IntsIn w14 W3.heap.size w13.heap.size (.slice va3 SL.length vc3) SL:=by rw [hw14];exact HINN13.out.drewN _
   have m8:w14.cell? ⟨pb,8,none⟩=some (.int .i64 st):=by rw [hw14];exact m8
   have hsz14:w13.heap.size≤w14.heap.size:=by rw [hw14,size_drewN];exact Nat.le_refl _
   have HE14:=Lib.hid hE14
   have HIN14:=Lib.hid hin14
   clear hw14 hE14 hin14
   refine wp_region_facts (w0:=w14) [0,1,2,3,4,5,6,7,8] [9] (fun v=>⟨#[perV (.slice a1 p1.head.length m1) (.slice a2 p1.cycle.length m2) p1.frm p1.period,perV (.slice a3 p2.head.length m3) (.slice a4 p2.cycle.length m4) p2.frm p2.period,.int .i64 0,.pointer (some ⟨w.heap.size,0,none⟩),.pointer (some ⟨w.heap.size+1,0,none⟩),undef,.pointer (some ⟨w.heap.size+1+1,0,none⟩),.int .i64 0,.pointer (some ⟨pb,0,none⟩),.int .i64 L,.int .i64 0,.slice hva HL.length hvc,.int .i64 (↑HL.length+↑cn),.int .i64 (bA+PA),.int .i64 (bB+PB),.pointer (some ⟨w10.heap.size,0,none⟩),.slice va3 SL.length vc3,.int .i64 ↑i0,.bool dB,v 8,undef,undef,.agg #[.slice a1 p1.head.length m1,.int .i64 p1.frm,.int .i64 p1.period,.slice a2 p1.cycle.length m2],.bool true,.bool false,.bool false,.agg #[.slice a3 p2.head.length m3,.int .i64 p2.frm,.int .i64 p2.period,.slice a4 p2.cycle.length m4],.bool true,.bool false,.bool false,undef,.agg #[.slice a1 p1.head.length m1,.int .i64 p1.frm,.int .i64 p1.period,.slice a2 p1.cycle.length m2],.agg #[.slice a3 p2.head.length m3,.int .i64 p2.frm,.int .i64 p2.period,.slice a4 p2.cycle.length m4],pairV (.slice z1 qa.head.length y1) (.slice z2 qa.cycle.length y2) (.slice z3 qb.head.length y3) (.slice z4 qb.cycle.length y4) qa qb st (.slice xa (isort (cycL qa st)).length xc) (.slice ya (isort (cycL qb st)).length yc) g mb,.tuple #[.int .i64 L,.int .i64 0],.pointer (some ⟨pb,0,none⟩),.pointer (some ⟨pb,2,none⟩),.int .i64 qa.period,.pointer (some ⟨pb,4,none⟩),.pointer (some ⟨pb,6,none⟩),.int .i64 qb.period,.tuple #[.int .i64 L,.int .i64 0],.int .i64 L,.int .i64 0,.int .i64 0,.bool false,undef,.agg #[.slice z1 qa.head.length y1,.int .i64 qa.frm,.int .i64 qa.period,.slice z2 qa.cycle.length y2,.slice z3 qb.head.length y3,.int .i64 qb.frm,.int .i64 qb.period,.slice z4 qb.cycle.length y4,.int .i64 st,.slice xa (isort (cycL qa st)).length xc,.slice ya (isort (cycL qb st)).length yc,.int .i64 g,.map (some mb)],.slice hva HL.length hvc,.slice hva HL.length hvc,.int .i64 ↑HL.length,.agg #[.slice z1 qa.head.length y1,.int .i64 qa.frm,.int .i64 qa.period,.slice z2 qa.cycle.length y2,.slice z3 qb.head.length y3,.int .i64 qb.frm,.int .i64 qb.period,.slice z4 qb.cycle.length y4,.int .i64 st,.slice xa (isort (cycL qa st)).length xc,.slice ya (isort (cycL qb st)).length yc,.int .i64 g,.map (some mb)],.int .i64 ↑cn,.int .i64 (↑HL.length+↑cn),u54,u55,u56,u57,u58,u59,u60,u61,u62,u63,u64,u65,u66,u67,u68,t54,t55,t56,t57,t58,t59,t60,t61,t62,t63,t64,t65,t66,t67,t68,.int .i64 (↑HL.length+↑cn),.int .i64 (bA+PA),.int .i64 (bB+PB),.int .i64 (bA+PA+(bB+PB)),.int .i64 (↑HL.length+↑cn),.int .i64 (bA+PA+(bB+PB)-(↑HL.length+↑cn)),.int .i64 (bA+PA),.int .i64 (↑HL.length+↑cn),.int .i64 (bA+PA-(↑HL.length+↑cn)),.agg #[.int .i64 (↑HL.length+↑cn),.int .i64 (bA+PA+(bB+PB)-(↑HL.length+↑cn)),.int .i64 (bA+PA-(↑HL.length+↑cn))],.int .i64 0,.pointer (some ⟨w10.heap.size,0,none⟩),.int .i64 (↑HL.length+↑cn),.bool false,undef,.int .i64 0,.bool true,.bool true,.agg #[.slice z1 qa.head.length y1,.int .i64 qa.frm,.int .i64 qa.period,.slice z2 qa.cycle.length y2,.slice z3 qb.head.length y3,.int .i64 qb.frm,.int .i64 qb.period,.slice z4 qb.cycle.length y4,.int .i64 st,.slice xa (isort (cycL qa st)).length xc,.slice ya (isort (cycL qb st)).length yc,.int .i64 g,.map (some mb)],.slice hva HL.length hvc,.slice va LL.length vc,undef,undef,undef,undef,undef,undef,undef,undef,undef,undef,undef,undef,undef,undef,undef,undef,undef,undef,undef,undef,undef,undef,undef,.slice va LL.length vc,.tuple #[],.slice va LL.length vc,.slice va3 SL.length vc3,.tuple #[.int .i64 ↑i0,.bool dB],.slice va3 SL.length vc3,.pointer (some ⟨pb,8,none⟩),.int .i64 st,.tuple #[.int .i64 ↑i0,.bool dB],.int .i64 ↑i0,.bool dB,v 0,v 1,v 2,v 3,v 4,v 5,v 6,v 7,undef,undef,undef,undef,undef,undef,undef,undef,undef,undef,undef,undef,undef,undef,undef,undef,undef,undef,undef,undef],[]⟩) (fun _=>undef)
    (fun i v lo hi W=>match i with
     | 0=>v 0=.slice va3 SL.length vc3
     | 1=>v 1=.int .i64 i0
     | 2=>v 2=.int .i64 i0
     | 3=>v 3=.slice ha' i0 i0
     | 4=>v 4=.pointer (some ⟨pb,8,none⟩)
     | 5=>v 5=.int .i64 st
     | 6=>v 6=.int .i64 L
     | 7=>v 7=.agg #[.slice ha' i0 i0,.int .i64 st,.int .i64 L,.slice none 0 0]
     | 8=>v 8=.pointer (some ⟨lo 8,0,none⟩)∧lo 8<hi 8∧Bxx W (lo 8) #[.slice none 0 0,.int .i64 0,.int .i64 0,.slice none 0 0] 39
     | _=>True)
    (fun W=>W.cell? ⟨pb,8,none⟩=some (.int .i64 st)) rfl (by kernel_rfl) (by decide) rfl ?stab ?loc (fun W hb=>cux m8 hb) ?steps ?fin
   case stab=>
    rintro (_|_|_|_|_|_|_|_|_|i) v lo hi W W' h hb
    ·exact h
    ·exact h
    ·exact h
    ·exact h
    ·exact h
    ·exact h
    ·exact h
    ·exact h
    ·exact ⟨h.1,h.2.1,h.2.2.below hb⟩
    ·trivial
   case loc=>
    rintro (_|_|_|_|_|_|_|_|_|i) v v' lo lo' hi hi' W hag h
    ·have q:=hag 0 (.inl rfl)
     (try dsimp only at h ⊢);(try simp only [q.1,q.2.1,q.2.2] at h);exact h
    ·have q:=hag 1 (.inl rfl)
     (try dsimp only at h ⊢);(try simp only [q.1,q.2.1,q.2.2] at h);exact h
    ·have q:=hag 2 (.inl rfl)
     (try dsimp only at h ⊢);(try simp only [q.1,q.2.1,q.2.2] at h);exact h
    ·have q:=hag 3 (.inl rfl)
     have q0:=hag 0 (.inr (Rdp (by kernel_rfl)))
     have q1:=hag 1 (.inr (Rdp (by kernel_rfl)))
     have q2:=hag 2 (.inr (Rdp (by kernel_rfl)))
     (try dsimp only at h ⊢);(try simp only [q.1,q.2.1,q.2.2,q0.1,q0.2.1,q0.2.2,q1.1,q1.2.1,q1.2.2,q2.1,q2.2.1,q2.2.2] at h);exact h
    ·have q:=hag 4 (.inl rfl)
     (try dsimp only at h ⊢);(try simp only [q.1,q.2.1,q.2.2] at h);exact h
    ·have q:=hag 5 (.inl rfl)
     have q4:=hag 4 (.inr (Rdp (by kernel_rfl)))
     (try dsimp only at h ⊢);(try simp only [q.1,q.2.1,q.2.2,q4.1,q4.2.1,q4.2.2] at h);exact h
    ·have q:=hag 6 (.inl rfl)
     (try dsimp only at h ⊢);(try simp only [q.1,q.2.1,q.2.2] at h);exact h
    ·have q:=hag 7 (.inl rfl)
     have q3:=hag 3 (.inr (Rdp (by kernel_rfl)))
     have q5:=hag 5 (.inr (Rdp (by kernel_rfl)))
     have q6:=hag 6 (.inr (Rdp (by kernel_rfl)))
     (try dsimp only at h ⊢);(try simp only [q.1,q.2.1,q.2.2,q3.1,q3.2.1,q3.2.2,q5.1,q5.2.1,q5.2.2,q6.1,q6.2.1,q6.2.2] at h);exact h
    ·have q:=hag 8 (.inl rfl)
     (try dsimp only at h ⊢);(try simp only [q.1,q.2.1,q.2.2] at h);exact h
    ·trivial
   case steps=>
    refine SFx.cons rfl ?_ (SFx.cons rfl ?_ (SFx.cons rfl ?_ (SFx.cons rfl ?_ (SFx.cons rfl ?_ (SFx.cons rfl ?_ (SFx.cons rfl ?_ (SFx.cons rfl ?_ (SFx.cons rfl ?_ SFx.nil))))))))
    ·rintro v lo hi W hb g8 hd K hK
     clear hd
     dsimp only
     go_wp2_with fail
     exact acx (hK (.slice va3 SL.length vc3) W (Below.refl _ _) rfl) (by simp)
    ·rintro v lo hi W hb g8 hd K hK
     clear hd
     dsimp only
     go_wp2_with fail
     exact acx (hK (.int .i64 i0) W (Below.refl _ _) rfl) (by simp)
    ·rintro v lo hi W hb g8 hd K hK
     clear hd
     dsimp only
     go_wp2_with fail
     exact acx (hK (.int .i64 i0) W (Below.refl _ _) rfl) (by simp)
    ·rintro v lo hi W hb g8 hd K hK
     have e0:v 0=.slice va3 SL.length vc3:=(hd 0 (Rdp (by kernel_rfl))).2.2
     have e1:v 1=.int .i64 i0:=(hd 1 (Rdp (by kernel_rfl))).2.2
     have e2:v 2=.int .i64 i0:=(hd 2 (Rdp (by kernel_rfl))).2.2
     clear hd
     dsimp only
     (try simp only [e0,e1,e2])
     go_wp2_with fail
     exact acx (hK (.slice ha' i0 i0) W (Below.refl _ _) rfl) (by simp [e0,e1,e2])
    ·rintro v lo hi W hb g8 hd K hK
     clear hd
     dsimp only
     go_wp2_with fail
     exact acx (hK (.pointer (some ⟨pb,8,none⟩)) W (Below.refl _ _) rfl) (by simp)
    ·rintro v lo hi W hb g8 hd K hK
     have e4:v 4=.pointer (some ⟨pb,8,none⟩):=(hd 4 (Rdp (by kernel_rfl))).2.2
     clear hd
     dsimp only
     (try simp only [e4])
     go_wp2_with fail
     exact acx (hK (.int .i64 st) W (Below.refl _ _) rfl) (by simp [e4])
    ·rintro v lo hi W hb g8 hd K hK
     clear hd
     dsimp only
     go_wp2_with fail
     exact acx (hK (.int .i64 L) W (Below.refl _ _) rfl) (by simp)
    ·rintro v lo hi W hb g8 hd K hK
     have e3:v 3=.slice ha' i0 i0:=(hd 3 (Rdp (by kernel_rfl))).2.2
     have e5:v 5=.int .i64 st:=(hd 5 (Rdp (by kernel_rfl))).2.2
     have e6:v 6=.int .i64 L:=(hd 6 (Rdp (by kernel_rfl))).2.2
     clear hd
     dsimp only
     (try simp only [e3,e5,e6])
     go_wp2_with fail
     exact acx (hK (.agg #[.slice ha' i0 i0,.int .i64 st,.int .i64 L,.slice none 0 0]) W (Below.refl _ _) rfl) (by simp [e3,e5,e6])
    ·rintro v lo hi W hb g8 hd K hK
     clear hd
     dsimp only
     go_wp2_with fail
     exact hK (.pointer (some ⟨W.heap.size,0,none⟩)) _ (Ea (Er _) _) ⟨rfl,by simp,Bxx.new _ _ _⟩
   case fin=>
    rintro v lo hi W15 hb15 _ hf _
    show wpList _ _ _ [_] _ _
    have e7:v 7=.agg #[.slice ha' i0 i0,.int .i64 st,.int .i64 L,.slice none 0 0]:=(hf 7 rfl).2.2.2
    obtain ⟨l8,_,k8,e8,lt8,hob⟩:=hf 8 rfl
    clear hf
    generalize lo 8=ob at *
    generalize hi 8=hi8 at *
    dsimp only
    rw [e7,e8]
    clear e7 e8
    generalize v 0=o0
    generalize v 1=o1
    generalize v 2=o2
    generalize v 3=o3
    generalize v 4=o4
    generalize v 5=o5
    generalize v 6=o6
    clear v
    have k0:=hob.cells 0
    have k1:=hob.cells 1
    have k2:=hob.cells 2
    have k3:=hob.cells 3
    have hob':w13.heap.size≤ob:=by omega
    have hpb3:=HZ3.out
    go_upto_region 26 with (fail)
    refine wp_abs (F:=fun W16=>Bxx W16 ob #[.slice ha' i0 i0,.int .i64 st,.int .i64 L,.slice none 0 0] 39∧IntsIn W16 W3.heap.size w13.heap.size (.slice va3 SL.length vc3) SL∧Below W3.heap.size W3 W16)
     ⟨Bxx.set4 hob,(((((HIN14.out.below hb15 hsz14).set _ (by omega)).set _ (by omega)).set _ (by omega)).set _ (by omega)),((((HE14.out.trans (hb15.mono (by omega))).setCell (p:=⟨ob,0,none⟩) (by simp;omega) _).setCell (p:=⟨ob,1,none⟩) (by simp;omega) _).setCell (p:=⟨ob,2,none⟩) (by simp;omega) _).setCell (p:=⟨ob,3,none⟩) (by simp;omega) _⟩ ?_
    clear hob k0 k1 k2 k3 m8 hb15
    rintro W16 ⟨hob,hin16,hE16⟩
    have hsz16:=hE16.size
    have hobl:=hob.lt
    have HOB:=Lib.hid hob
    have HIN16:=Lib.hid hin16
    have HE16:=Lib.hid hE16
    clear hob hin16 hE16
    obtain ⟨DR,hDR⟩:∃ DR,DR=SL.drop i0:=⟨_,rfl⟩
    have HDR:=Lib.hid hDR
    have hdl:DR.length=SL.length-i0:=by rw [hDR];simp
    have hdm:∀ y∈DR,st≤y∧y<st+L:=fun y hy=>by
     rw [hDR,HCP.out.2.2] at hy
     have:=(sel_mem (show 0≤st by omega) y).1 hy;omega
    have HDM:=Lib.hid hdm
    have HDL:=Lib.hid hdl
    clear hDR hdl hdm
    go_wp2_with fail
    go_loopw [151] (fun i wr=>∃ (k:Nat) (cv:Value),k≤SL.length-i0∧i=.int .i64 k∧Bxx wr ob #[.slice ha' i0 i0,.int .i64 st,.int .i64 L,cv] 39∧OwnI wr W16.heap.size cv ((DR.take k).map (· - st))∧W16.grownBy wr (some ob)) (fun i _=>SL.length-i0-(intOf i).toNat)
    case atStart=>exact ⟨0,.slice none 0 0,by omega,rfl,HOB.out,OwnI.nil _ _,World.grownBy.refl _ _⟩
    case round=>
     obtain ⟨k,cv,hk,rfl,hob,hown,hgr⟩:=hrel
     have hszr:=hgr.size
     obtain ⟨ca,cc,rfl⟩:=hown.form
     have hinr:=HIN16.out.of_blocks (w':=wr) fun j h1 h2=>hgr.block j (by omega) (by simp;omega)
     by_cases hlt:k<SL.length-i0
     ·obtain ⟨⟨a8,c8,he8,_,_,h38⟩,_,hrng⟩:=HDINT'.out wr hinr.ints
      rw [← HDR.out] at he8 h38 hrng
      have hltD:k<DR.length:=by rw [HDL.out];exact hlt
      rcases h38 with h38|⟨b8,f8,hb8,hcell⟩
      ·rw [h38] at hltD;simp at hltD
      injection he8 with he1 he2 he3
      rw [hb8] at he1
      subst he1
      have hcl:=hcell k hltD
      have hyb:=HDM.out _ (getD_mem hltD)
      have hkI:(k:Int)<((SL.length-i0:Nat):Int):=by omega
      have hts:(DR.take (k+1)).map (· - st)=(DR.take k).map (· - st) ++ [DR.getD k 0-st]:=by
       rw [List.take_succ_eq_append_getElem hltD,List.map_append];simp [hltD]
      obtain ⟨y,hy⟩:∃ y,y=DR.getD k 0:=⟨_,rfl⟩
      rw [← hy] at hcl hyb hts
      obtain ⟨CL,hCL⟩:∃ CL,CL=(DR.take k).map (· - st):=⟨_,rfl⟩
      have hcll:CL.length≤k:=by rw [hCL];simp;omega
      rw [← hCL] at hown hob hts
      have q3:wr.cell? ⟨ob,3,none⟩=some (.slice ca CL.length cc):=(hob.cells 3).1
      have hpbr:Bxx wr pb #[.slice z1 qa.head.length y1,.int .i64 qa.frm,.int .i64 qa.period,.slice z2 qa.cycle.length y2,.slice z3 qb.head.length y3,.int .i64 qb.frm,.int .i64 qb.period,.slice z4 qb.cycle.length y4,.int .i64 st,.slice xa (isort (cycL qa st)).length xc,.slice ya (isort (cycL qb st)).length yc,.int .i64 g,.map (some mb)] 139:=(hgr.block pb (by omega) (by simp;omega)).trans (HPB.out.below HE16.out)
      have q8:wr.cell? ⟨pb,8,none⟩=some (.int .i64 st):=(hpbr.cells 8).1
      have HTS:=Lib.hid hts
      have HOBr:=Lib.hid hob
      have HOWNr:=Lib.hid hown
      have HGR:=Lib.hid hgr
      clear hob hown hgr hinr hts hy hCL hcell hpbr hb8 he2 he3 hrng
      go_wp2_with (at_builtin;refine append_list (by rfl) _ _ (by rfl) W16.heap.size (.slice ca CL.length cc) CL (y-st) (by rfl) (HOWNr.out.ext (Ea (Er _) _)) _ _ (by rfl) (by simp) ⟨by omega,by omega⟩ (by omega) (by simp;omega) ?_;intro gg cap w17 hown17 hgrow17 hbel17;have hob17:=(HOBr.out.alloc (.cells #[.int .i64 (y-st)] 3)).upto hbel17 hobl;have r1:=(hob17.cells 3).1;have r2:=(hob17.cells 3).2)
      go_roundw
      case rel=>
       refine ⟨k+1,.slice (some ⟨gg,0,none⟩) (CL.length+1) cap,by omega,by go_num,heap_set_at 3 _ hob17,?_,grown_ob HGR.out (((Below.refl _ wr).alloc hszr _).trans hbel17)⟩
       rw [HTS.out]
       exact hown17.above ((Above.refl _ w17).setCell (by simp;omega) _)
      case measure=>simp [intOf];omega
     ·obtain rfl:k=SL.length-i0:=by omega
      have hall:DR.take (SL.length-i0)=DR:=by rw [← HDL.out];exact List.take_length
      rw [hall] at hown
      have hset:=set_of (U:=fun n=>p1.mem n∧p2.mem n) (st:=st) (L:=L) (by omega) hL9 (fun n h=>h.1.1) HUP.out
      obtain ⟨CL,hCL⟩:∃ CL,CL=DR.map (· - st):=⟨_,rfl⟩
      rw [hall,← hCL] at hob
      rw [← hCL] at hown
      have hPIS:PerIs wr (.slice ha' i0 i0) (.slice ca CL.length cc) (Per.mk (sel (fun n=>p1.mem n∧p2.mem n) 0 st) st L ((sel (fun n=>p1.mem n∧p2.mem n) st (st+L)).map (· - st))):=by
       refine ⟨?_,?_⟩
       ·have:=HINT'.out wr hinr.ints
        rw [HCP.out.2.1] at this;exact this
       ·have:=hown.ints
        rw [hCL,HDR.out,HCP.out.2.2] at this
        rw [hCL,HDR.out,HCP.out.2.2];exact this
      have hEr:Below w.heap.size w wr:=⟨hgr.os.trans (HE16.out.os.trans hE3.os),hgr.tape.trans (HE16.out.tape.trans hE3.tape),hgr.output.trans (HE16.out.output.trans hE3.output),by have:=hE3.size;omega,fun j hj=>(hgr.block j (by have:=hE3.size;omega) (by simp;omega)).trans ((HE16.out.block j (by have:=hE3.size;omega)).trans (hE3.block j hj))⟩
      have hrbr:Bxx wr (w.heap.size+2) #[.slice none 0 0,.int .i64 0,.int .i64 0,.slice none 0 0] 39:=(hgr.block _ (by omega) (by simp;omega)).trans (HRB.out.below HE16.out)
      have q0:wr.cell? ⟨ob,0,none⟩=some (.slice ha' i0 i0):=(hob.cells 0).1
      have q1:wr.cell? ⟨ob,1,none⟩=some (.int .i64 st):=(hob.cells 1).1
      have q2:wr.cell? ⟨ob,2,none⟩=some (.int .i64 L):=(hob.cells 2).1
      have q3:wr.cell? ⟨ob,3,none⟩=some (.slice ca CL.length cc):=(hob.cells 3).1
      have HSET:=Lib.hid hset
      have HPIS:=Lib.hid hPIS
      have HER:=Lib.hid hEr
      have HRBR:=Lib.hid hrbr
      have HQ:Hid (IsCanon q (Per.mk (sel (fun n=>p1.mem n∧p2.mem n) 0 st) st L ((sel (fun n=>p1.mem n∧p2.mem n) st (st+L)).map (· - st))).mem):=Lib.hid (hq.congr fun n=>(hset.2 n).symm)
      clear hset hPIS hEr hrbr hob hown hgr hinr hall hCL
      go_wp2_with (go_at_call 88;refine (canon_any _ _ (Per.mk (sel (fun n=>p1.mem n∧p2.mem n) 0 st) st L ((sel (fun n=>p1.mem n∧p2.mem n) st (st+L)).map (· - st))) q _ HPIS.out HSET.out.1 (by show st≤_;omega) (by show L≤_;omega) HQ.out).mono ?_;rintro e w18 ⟨r1,r2,rfl,ho18,hb18⟩;obtain ⟨n1,j1,n2,j2,rfl,rfl⟩:=ho18.form;have hrb18:=HRBR.out.below hb18;have g0:=hrb18.cells 0;have g1:=hrb18.cells 1;have g2:=hrb18.cells 2;have g3:=hrb18.cells 3;have hsz18:=hb18.size)
      have hEr:=HER.out
      exact bodyPost_ret (v:=.tuple #[perV (.slice n1 q.head.length j1) (.slice n2 q.cycle.length j2) q.frm q.period,.int .i64 0]) (by simp [results,Tryz.results119,go_sem, *]) rfl ⟨_,_,rfl,(ho18.above (by (repeat' (with_reducible first|exact Above.refl _ _|refine Above.alloc ?_ _|refine Above.drew ?_|refine Above.drewN ?_ _|refine Above.setCell ?_ (by first|(simp;done)|(simp;omega)|omega) _)))).mono (by omega),by (repeat' (with_reducible first|assumption|apply Er|apply Ea|apply Ed|apply En|(refine Es ?_ (by first|(simp<;>omega)|omega) _)|refine Et ?_ (by assumption)))⟩
end Go.Proofs.YthjnojbeimchdaaGreat
