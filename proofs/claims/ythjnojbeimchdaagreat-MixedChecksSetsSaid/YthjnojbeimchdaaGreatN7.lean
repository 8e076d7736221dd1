/- Part 7 of what the claims of this seat rest on. -/
import Derived.Test.YthjnojbeimchdaaGreatN6
import Derived.Test.YthjnojbeimchdaaGreatN2
import Derived.Deep.Cut
import Derived.Deep.CutBlock
import Derived.Deep.DeepCutAuto
import Derived.Test.YthjnojbeimchdaaGreatN1
import Derived.Test.YthjnojbeimchdaaGreatN4
import Derived.Test.YthjnojbeimchdaaGreatN5
import Derived.ScopeJumps
set_option linter.unusedVariables false
set_option linter.unusedSimpArgs false
/- Walks: operate (package periodic). -/
namespace Go.Proofs.YthjnojbeimchdaaGreat
open Go.RowKit Go.Maps Kal
theorem opS_nonneg {k:Int} {p q:Per} {n:Int} (h:opS k p.mem q.mem n):0≤n:=by
 unfold opS at h
 split at h
 ·exact h.1.1
 ·split at h
  ·exact h.elim And.left And.left
  ·exact h.1.1
theorem opS_pfrom {k:Int} {p q:Per} {s T:Int} (h1:PFrom p.mem s T) (h2:PFrom q.mem s T):PFrom (opS k p.mem q.mem) s T:=by
 intro n hn
 have a:=h1 n hn
 have b:=h2 n hn
 unfold opS
 split
 ·exact ⟨fun h=>⟨a.1 h.1,b.1 h.2⟩,fun h=>⟨a.2 h.1,b.2 h.2⟩⟩
 ·split
  ·exact ⟨fun h=>h.imp a.1 b.1,fun h=>h.imp a.2 b.2⟩
  ·exact ⟨fun h=>⟨a.1 h.1,fun g=>h.2 (b.2 g)⟩,fun h=>⟨a.2 h.1,fun g=>h.2 (b.1 g)⟩⟩
set_option maxRecDepth 100000 in
set_option maxHeartbeats 4000000 in
theorem operate_ok (kd:Int) (hkd:kd=0∨kd=1∨kd=2) (h1 c1 h2 c2:Value) (p1 p2 qa qb q:Per) (w:World) (hp1:PerIs w h1 c1 p1) (hp2:PerIs w h2 c2 p2) (hv1:Valid p1) (hv2:Valid p2) (hqa:IsCanon qa p1.mem) (hqb:IsCanon qb p2.mem)
  (hL:lcmI qa.period qb.period≤1099511627776) (hpp:kd=0→qa.period≤4294967295∧qb.period≤4294967295)
  (hq:IsCanon q (opS kd p1.mem p2.mem)) (hcn:cnt (opS kd p1.mem p2.mem) (max qa.frm qb.frm+lcmI qa.period qb.period).toNat≤1048576) :
  Calls Tryz.prog 119 #[perV h1 c1 p1.frm p1.period,perV h2 c2 p2.frm p2.period,.int .i64 kd] w (PerOk q w):=by
 have hk0:0≤kd:=by omega
 have hk1:kd≤2:=by omega
 have HKD:=Lib.hid hkd
 have HPP:=Lib.hid hpp
 have HCNT:=Lib.hid hcn
 clear hkd hpp hcn
 obtain ⟨a1,m1,a2,m2,rfl,rfl⟩:=hp1.inn.form
 obtain ⟨a3,m3,a4,m4,rfl,rfl⟩:=hp2.inn.form
 have hl1:∀ W,Below w.heap.size w W→PerIs W (.slice a1 p1.head.length m1) (.slice a2 p1.cycle.length m2) p1:=fun W hb=>hp1.ext hb
 have hl2:∀ W,Below w.heap.size w W→PerIs W (.slice a3 p2.head.length m3) (.slice a4 p2.cycle.length m4) p2:=fun W hb=>hp2.ext hb
 have hvb1:=(validB_iff p1).2 hv1
 have hvb2:=(validB_iff p2).2 hv2
 have HV1:=Lib.hid hv1
 have HV2:=Lib.hid hv2
 have HQA:=Lib.hid hqa
 have HQB:=Lib.hid hqb
 have HF1:Hid (p1.frm≤562949953421312∧p1.period≤562949953421312):=by have:=hv1.frm;have:=hv1.per;exact Lib.hid (by omega)
 have HF2:Hid (p2.frm≤562949953421312∧p2.period≤562949953421312):=by have:=hv2.frm;have:=hv2.per;exact Lib.hid (by omega)
 obtain ⟨b1,b2,_,b4,b5⟩:=hqa.smaller hv1.wf
 obtain ⟨d1,d2,_,d4,d5⟩:=hqb.smaller hv2.wf
 have za0:=hqa.wf.frm
 have zb0:=hqb.wf.frm
 have za1:=hqa.wf.per
 have zb1:=hqb.wf.per
 have e1:=hv1.frm
 have e2:=hv1.per
 have e3:=hv2.frm
 have e4:=hv2.per
 have hgl:=gcd_bound (b:=qb.period) za1
 have hgl2:=gcd_bound2 (a:=qa.period) zb1
 clear hp1 hp2 hv1 hv2 hqa hqb
 obtain ⟨st,hst⟩:∃ st,st=max (max qa.frm qb.frm) 0:=⟨_,rfl⟩
 have HSTT:=Lib.hid hst
 have hs1:qa.frm≤st:=by omega
 have hs2:qb.frm≤st:=by omega
 have hs3:st≤1099511627776:=by omega
 clear hst
 generalize hG:((Int.gcd qa.period qb.period:Nat):Int)=g at *
 have HG:=Lib.hid hG
 clear hG
 go_enter Tryz.func119,Tryz.ntmps119
 go_upto_region 4 with ((first|(go_at_call 65;first|((with_reducible refine (valid_any _ _ p1 _ (hl1 _ xE)).mono ?_);rintro e w1 ⟨rfl,hb1⟩;obtain ⟨hx1,hf1⟩:=bcell hb1;(try simp only [World.size_alloc,World.size_drew,size_drewN,World.size_setCell] at hx1 hf1);have hz1:w.heap.size+2<w1.heap.size:=(by have h7:=hb1.size;simp at h7;omega))|((with_reducible refine (valid_any _ _ p2 _ (hl2 _ xE)).mono ?_);rintro e w2 ⟨rfl,hb2⟩;obtain ⟨hx2,hf2⟩:=bcell hb2;(try simp only [World.size_alloc,World.size_drew,size_drewN,World.size_setCell] at hx2 hf2);have hz2:w.heap.size+2<w2.heap.size:=(by have h7:=hb2.size;omega);have hA:=(((((Bxx.new w #[.slice a1 p1.head.length m1,.int .i64 p1.frm,.int .i64 p1.period,.slice a2 p1.cycle.length m2] 39).alloc (.cells #[.slice a3 p2.head.length m3,.int .i64 p2.frm,.int .i64 p2.period,.slice a4 p2.cycle.length m4] 39)).alloc (.cells #[.slice none 0 0,.int .i64 0,.int .i64 0,.slice none 0 0] 39)).upto hb1 (by simp;omega)).upto hb2 (by omega));have hB:=((((Bxx.new (w.alloc (.cells #[.slice a1 p1.head.length m1,.int .i64 p1.frm,.int .i64 p1.period,.slice a2 p1.cycle.length m2] 39)) #[.slice a3 p2.head.length m3,.int .i64 p2.frm,.int .i64 p2.period,.slice a4 p2.cycle.length m4] 39).alloc (.cells #[.slice none 0 0,.int .i64 0,.int .i64 0,.slice none 0 0] 39)).upto hb1 (by simp)).upto hb2 (by simp;omega));simp only [World.size_alloc] at hB;have A0:=(hA.cells 0).1;have A1:=(hA.cells 1).1;have A2:=(hA.cells 2).1;have A3:=(hA.cells 3).1;have B0:=(hB.cells 0).1;have B1:=(hB.cells 1).1;have B2:=(hB.cells 2).1;have B3:=(hB.cells 3).1))|(go_at_call 147;refine (newPair_any _ _ _ _ p1 p2 qa qb 0 _ (hl1 _ xE) (hl2 _ xE) HV1.out.wf HV2.out.wf HF1.out.1 HF2.out.1 HF1.out.2 HF2.out.2 HQA.out HQB.out (by omega) (by omega)).mono ?_;rintro e w3 ⟨x1,x2,x3,x4,xv,yv,mb,he,hP,hb3⟩;rw [← HSTT.out,HG.out] at he;rw [← HSTT.out] at hP;subst he;obtain ⟨z1,y1,z2,y2,rfl,rfl⟩:=hP.a.form;obtain ⟨z3,y3,z4,y4,rfl,rfl⟩:=hP.b.form;obtain ⟨⟨⟨xa,xc,rfl,_⟩,hxl,_⟩,_⟩:=hP.x;obtain ⟨⟨⟨ya,yc,rfl,_⟩,hyl,_⟩,_⟩:=hP.y)))
 generalize hpbw:w3.heap.size=pb at *
 have hszb:w.heap.size+2<w2.heap.size:=hz2
 have hszc:w2.heap.size≤pb:=by have:=hb3.size;omega
 have hrx:Bxx w3 (w.heap.size+2) #[.slice none 0 0,.int .i64 0,.int .i64 0,.slice none 0 0] 39:=(((Bxx.at (by simp)).upto hb1 (by simp)).upto hb2 (by omega)).upto hb3 (by omega)
 refine wp_abs (F:=fun W3=>Bxx W3 pb #[.slice z1 qa.head.length y1,.int .i64 qa.frm,.int .i64 qa.period,.slice z2 qa.cycle.length y2,.slice z3 qb.head.length y3,.int .i64 qb.frm,.int .i64 qb.period,.slice z4 qb.cycle.length y4,.int .i64 st,.slice xa (isort (cycL qa st)).length xc,.slice ya (isort (cycL qb st)).length yc,.int .i64 g,.map (some mb)] 139∧Bxx W3 (w.heap.size+2) #[.slice none 0 0,.int .i64 0,.int .i64 0,.slice none 0 0] 39∧PairIn W3 w2.heap.size pb (.slice z1 qa.head.length y1) (.slice z2 qa.cycle.length y2) (.slice z3 qb.head.length y3) (.slice z4 qb.cycle.length y4) qa qb st (.slice xa (isort (cycL qa st)).length xc) (.slice ya (isort (cycL qb st)).length yc) mb∧Below w.heap.size w W3∧W3.heap.size=pb+1)
  ⟨Bxx.at hpbw.symm,hrx.alloc _,hP.below (Ea (Er _) _) (by omega),by exact xE,by simp [hpbw]⟩ ?_
 clear hP hrx hb1 hb2 hb3 hx1 hf1 hx2 hf2 hA hB A0 A1 A2 A3 B0 B1 B2 B3 hvb1 hvb2 hz1 hpbw
 rintro W3 ⟨hpb,hrb,hP,hE3,hz3⟩
 have c0:W3.cell? ⟨pb,0,none⟩=some (.slice z1 qa.head.length y1):=(hpb.cells 0).1
 have c1:W3.cell? ⟨pb,1,none⟩=some (.int .i64 qa.frm):=(hpb.cells 1).1
 have c2:W3.cell? ⟨pb,2,none⟩=some (.int .i64 qa.period):=(hpb.cells 2).1
 have c3:W3.cell? ⟨pb,3,none⟩=some (.slice z2 qa.cycle.length y2):=(hpb.cells 3).1
 have c4:W3.cell? ⟨pb,4,none⟩=some (.slice z3 qb.head.length y3):=(hpb.cells 4).1
 have c5:W3.cell? ⟨pb,5,none⟩=some (.int .i64 qb.frm):=(hpb.cells 5).1
 have c6:W3.cell? ⟨pb,6,none⟩=some (.int .i64 qb.period):=(hpb.cells 6).1
 have c7:W3.cell? ⟨pb,7,none⟩=some (.slice z4 qb.cycle.length y4):=(hpb.cells 7).1
 have c8:W3.cell? ⟨pb,8,none⟩=some (.int .i64 st):=(hpb.cells 8).1
 have c9:W3.cell? ⟨pb,9,none⟩=some (.slice xa (isort (cycL qa st)).length xc):=(hpb.cells 9).1
 have c10:W3.cell? ⟨pb,10,none⟩=some (.slice ya (isort (cycL qb st)).length yc):=(hpb.cells 10).1
 have c11:W3.cell? ⟨pb,11,none⟩=some (.int .i64 g):=(hpb.cells 11).1
 have c12:W3.cell? ⟨pb,12,none⟩=some (.map (some mb)):=(hpb.cells 12).1
 have hL0:=lcmI_pos za1 zb1
 have HLV:Hid (lcmV qa.period qb.period=.tuple #[.int .i64 (lcmI qa.period qb.period),.int .i64 0]):=Lib.hid (by unfold lcmV;rw [if_pos hL])
 generalize hLL:lcmI qa.period qb.period=L at *
 have HLL:=Lib.hid hLL
 have HFA:=Lib.hid (opFacts HQA.out HQB.out hs1 hs2 hLL.symm HG.out.symm)
 have hPA:=hP.at
 rw [HG.out] at hPA
 have HPA:=Lib.hid hPA
 have HP:=Lib.hid hP
 have HPB:=Lib.hid hpb
 have HRB:=Lib.hid hrb
 have HZ3:=Lib.hid hz3
 have hcl:(sel (fun n=>qa.mem n∧qb.mem n) 0 st).length≤1099511627776:=by
  have:=(sel_rise (S:=fun n=>qa.mem n∧qb.mem n) (lo:=0) (hi:=st) (Int.le_refl _)).length_le (by omega);omega
 have hcc:comN (isort (cycL qa st)) (isort (cycL qb st)) g≤2199023255552:=by
  have h1:=HFA.out.n
  have h2:=cnt_bound (fun n=>p1.mem n∧p2.mem n) (st+L).toNat
  omega
 clear hLL hPA hP hpb hrb hz3
 obtain ⟨HL,hHL⟩:∃ HL,HL=sel (fun n=>qa.mem n∧qb.mem n) 0 st:=⟨_,rfl⟩
 have HHL:=Lib.hid hHL
 rw [← hHL] at hcl
 obtain ⟨cn,hcn9⟩:∃ cn,cn=comN (isort (cycL qa st)) (isort (cycL qb st)) g:=⟨_,rfl⟩
 have HCN:=Lib.hid hcn9
 rw [← hcn9] at hcc
 clear hHL hcn9
 go_upto_region 9 with ((first|(go_at_call 29;refine (lcm_any _ _ _ za1 (by omega) zb1 (by omega)).mono ?_;rintro e w4 ⟨he,nq,rfl⟩;rw [HLV.out] at he;subst he)|(go_at_call 148;refine (heads_any _ _ _ _ qa qb st _ _ g mb _ (HPA.out.ext xE) HQA.out.wf HQB.out.wf (by have:=HSTT.out;omega) (by omega) (by omega) (by omega) (by omega)).mono ?_;rintro e w5 ⟨hv,rfl,hown5,hb5⟩;rw [← HHL.out] at hown5;obtain ⟨hva,hvc,rfl⟩:=hown5.form;obtain ⟨hc5,hf5⟩:=bcell hb5;(try simp only [World.size_alloc,World.size_drew,size_drewN,World.size_setCell] at hc5 hf5);have hz5:=HZ3.out;have hz5b:=hb5.size;(try simp only [size_drewN] at hz5b);have hz5c:pb<w5.heap.size:=(by omega))|(go_at_call 149;refine (common_any _ _ _ _ qa qb st _ _ g mb _ (HPA.out.ext xE) (by omega) (by omega) (fun x hx=>by have:=HFA.out.hx.2 x hx;omega) (by rw [← HCN.out];omega)).mono ?_;rintro e w6 ⟨he,hb6⟩;rw [← HCN.out] at he;subst he)))
 have hE6:Below W3.heap.size W3 w6:=by exact xE
 have hown6:=hown5.ext hb6
 have hsz6:=hE6.size
 have HE6:=Lib.hid hE6
 have HOWN6:=Lib.hid hown6
 have hpb6:=HPB.out.below hE6
 have d0:w6.cell? ⟨pb,0,none⟩=some (.slice z1 qa.head.length y1):=(hpb6.cells 0).1
 have d1:w6.cell? ⟨pb,1,none⟩=some (.int .i64 qa.frm):=(hpb6.cells 1).1
 have d2:w6.cell? ⟨pb,2,none⟩=some (.int .i64 qa.period):=(hpb6.cells 2).1
 have d3:w6.cell? ⟨pb,3,none⟩=some (.slice z2 qa.cycle.length y2):=(hpb6.cells 3).1
 have d4:w6.cell? ⟨pb,4,none⟩=some (.slice z3 qb.head.length y3):=(hpb6.cells 4).1
 have d5:w6.cell? ⟨pb,5,none⟩=some (.int .i64 qb.frm):=(hpb6.cells 5).1
 have d6:w6.cell? ⟨pb,6,none⟩=some (.int .i64 qb.period):=(hpb6.cells 6).1
 have d7:w6.cell? ⟨pb,7,none⟩=some (.slice z4 qb.cycle.length y4):=(hpb6.cells 7).1
 have d8:w6.cell? ⟨pb,8,none⟩=some (.int .i64 st):=(hpb6.cells 8).1
 have d9:w6.cell? ⟨pb,9,none⟩=some (.slice xa (isort (cycL qa st)).length xc):=(hpb6.cells 9).1
 have d10:w6.cell? ⟨pb,10,none⟩=some (.slice ya (isort (cycL qb st)).length yc):=(hpb6.cells 10).1
 have d11:w6.cell? ⟨pb,11,none⟩=some (.int .i64 g):=(hpb6.cells 11).1
 have d12:w6.cell? ⟨pb,12,none⟩=some (.map (some mb)):=(hpb6.cells 12).1
 have HPB6:=Lib.hid hpb6
 have hba:=belowI_bound HQA.out.wf (show 0≤st by omega)
 have hbb:=belowI_bound HQB.out.wf (show 0≤st by omega)
 obtain ⟨bA,hbA⟩:∃ bA,bA=belowI qa st:=⟨_,rfl⟩
 obtain ⟨bB,hbB⟩:∃ bB,bB=belowI qb st:=⟨_,rfl⟩
 obtain ⟨RA,hRA⟩:∃ RA,RA=L / qa.period:=⟨_,rfl⟩
 obtain ⟨RB,hRB⟩:∃ RB,RB=L / qb.period:=⟨_,rfl⟩
 obtain ⟨PA,hPA9⟩:∃ PA,PA=((isort (cycL qa st)).length:Int)*RA:=⟨_,rfl⟩
 obtain ⟨PB,hPB9⟩:∃ PB,PB=((isort (cycL qb st)).length:Int)*RB:=⟨_,rfl⟩
 have hIA:bA+PA=cnt p1.mem (st+L).toNat:=by rw [hbA,hPA9,hRA];exact HFA.out.inA
 have hIB:bB+PB=cnt p2.mem (st+L).toNat:=by rw [hbB,hPB9,hRB];exact HFA.out.inB
 have hIA1:=cnt_bound p1.mem (st+L).toNat
 have hIB1:=cnt_bound p2.mem (st+L).toNat
 rw [← hbA] at hba
 rw [← hbB] at hbb
 have hRA0:0≤RA:=by rw [hRA];exact Int.ediv_nonneg (by omega) (by omega)
 have hRB0:0≤RB:=by rw [hRB];exact Int.ediv_nonneg (by omega) (by omega)
 have hRA1:RA≤L:=by rw [hRA];exact Int.ediv_le_self _ (by omega)
 have hRB1:RB≤L:=by rw [hRB];exact Int.ediv_le_self _ (by omega)
 have hPA0:0≤PA:=by rw [hPA9];exact Int.mul_nonneg (by omega) hRA0
 have hPB0:0≤PB:=by rw [hPB9];exact Int.mul_nonneg (by omega) hRB0
 have hPA1:PA≤2199023255552:=by omega
 have hPB1:PB≤2199023255552:=by omega
 have hmA:IntKind.i64.wrap (((isort (cycL qa st)).length:Int)*RA)=PA:=by rw [← hPA9];exact wrapI ⟨by omega,by omega⟩
 have hmB:IntKind.i64.wrap (((isort (cycL qb st)).length:Int)*RB)=PB:=by rw [← hPB9];exact wrapI ⟨by omega,by omega⟩
 have hsA0:0≤bA+PA:=by omega
 have hsA1:bA+PA≤2199023255552:=by omega
 have hsB0:0≤bB+PB:=by omega
 have hsB1:bB+PB≤2199023255552:=by omega
 have hxl9:(isort (cycL qa st)).length≤17592186044416:=hxl
 have hyl9:(isort (cycL qb st)).length≤17592186044416:=hyl
 have HIA:=Lib.hid hIA
 have HIB:=Lib.hid hIB
 have HBA:=Lib.hid hbA
 have HBB:=Lib.hid hbB
 have HRA:=Lib.hid hRA
 have HRB9:=Lib.hid hRB
 have HB5:=Lib.hid hb5
 clear c0 c1 c2 c3 c4 c5 c6 c7 c8 c9 c10 c11 c12 hE6 hown6 hown5 hpb6 hIA hIB hIA1 hIB1 hbA hbB hRA hRB hPA9 hPB9 hb6 hb5 hc5 hf5
 refine wp_region_W (w0:=w6) [0,1,2,3,4,5,6,7,8,9,10,11,12,13,14,15] [] (fun v=>⟨#[perV (.slice a1 p1.head.length m1) (.slice a2 p1.cycle.length m2) p1.frm p1.period,perV (.slice a3 p2.head.length m3) (.slice a4 p2.cycle.length m4) p2.frm p2.period,.int .i64 kd,.pointer (some ⟨w.heap.size,0,none⟩),.pointer (some ⟨w.heap.size+1,0,none⟩),undef,.pointer (some ⟨w.heap.size+1+1,0,none⟩),.int .i64 0,.pointer (some ⟨pb,0,none⟩),.int .i64 L,.int .i64 0,.slice hva HL.length hvc,.int .i64 (↑HL.length+↑cn),v 15,undef,undef,undef,undef,undef,undef,undef,undef,.agg #[.slice a1 p1.head.length m1,.int .i64 p1.frm,.int .i64 p1.period,.slice a2 p1.cycle.length m2],.bool true,.bool false,.bool false,.agg #[.slice a3 p2.head.length m3,.int .i64 p2.frm,.int .i64 p2.period,.slice a4 p2.cycle.length m4],.bool true,.bool false,.bool false,undef,.agg #[.slice a1 p1.head.length m1,.int .i64 p1.frm,.int .i64 p1.period,.slice a2 p1.cycle.length m2],.agg #[.slice a3 p2.head.length m3,.int .i64 p2.frm,.int .i64 p2.period,.slice a4 p2.cycle.length m4],pairV (.slice z1 qa.head.length y1) (.slice z2 qa.cycle.length y2) (.slice z3 qb.head.length y3) (.slice z4 qb.cycle.length y4) qa qb st (.slice xa (isort (cycL qa st)).length xc) (.slice ya (isort (cycL qb st)).length yc) g mb,.tuple #[.int .i64 L,.int .i64 0],.pointer (some ⟨pb,0,none⟩),.pointer (some ⟨pb,2,none⟩),.int .i64 qa.period,.pointer (some ⟨pb,4,none⟩),.pointer (some ⟨pb,6,none⟩),.int .i64 qb.period,.tuple #[.int .i64 L,.int .i64 0],.int .i64 L,.int .i64 0,.int .i64 0,.bool false,undef,.agg #[.slice z1 qa.head.length y1,.int .i64 qa.frm,.int .i64 qa.period,.slice z2 qa.cycle.length y2,.slice z3 qb.head.length y3,.int .i64 qb.frm,.int .i64 qb.period,.slice z4 qb.cycle.length y4,.int .i64 st,.slice xa (isort (cycL qa st)).length xc,.slice ya (isort (cycL qb st)).length yc,.int .i64 g,.map (some mb)],.slice hva HL.length hvc,.slice hva HL.length hvc,.int .i64 ↑HL.length,.agg #[.slice z1 qa.head.length y1,.int .i64 qa.frm,.int .i64 qa.period,.slice z2 qa.cycle.length y2,.slice z3 qb.head.length y3,.int .i64 qb.frm,.int .i64 qb.period,.slice z4 qb.cycle.length y4,.int .i64 st,.slice xa (isort (cycL qa st)).length xc,.slice ya (isort (cycL qb st)).length yc,.int .i64 g,.map (some mb)],.int .i64 ↑cn,.int .i64 (↑HL.length+↑cn),v 0,v 1,v 2,v 3,v 4,v 5,v 6,v 7,v 8,v 9,v 10,v 11,v 12,v 13,v 14,undef,undef,undef,undef,undef,undef,undef,undef,undef,undef,undef,undef,undef,undef,undef,undef,undef,undef,undef,undef,undef,undef,undef,undef,undef,undef,undef,undef,undef,undef,undef,undef,undef,undef,undef,undef,undef,undef,undef,undef,undef,undef,undef,undef,undef,undef,undef,undef,undef,undef,undef,undef,undef,undef,undef,undef,undef,undef,undef,undef,undef,undef,undef,undef,undef,undef,undef,undef,undef,undef,undef,undef,undef,undef,undef,undef,undef,undef,undef,undef,undef,undef,undef,undef,undef,undef,undef,undef,undef,undef,undef,undef,undef,undef,undef,undef,undef,undef],[]⟩) [.pointer (some ⟨pb,0,none⟩),perV (.slice z1 qa.head.length y1) (.slice z2 qa.cycle.length y2) qa.frm qa.period,.pointer (some ⟨pb,8,none⟩),.int .i64 st,.int .i64 bA,.pointer (some ⟨pb,9,none⟩),.slice xa (isort (cycL qa st)).length xc,.int .i64 (isort (cycL qa st)).length,.int .i64 L,.pointer (some ⟨pb,0,none⟩),.pointer (some ⟨pb,2,none⟩),.int .i64 qa.period,.int .i64 RA,.int .i64 PA,.int .i64 (bA+PA),.int .i64 (bA+PA)] [] (fun _ _ _ _ _=>True) (fun W=>W.cell? ⟨pb,0,none⟩=some (.slice z1 qa.head.length y1)∧W.cell? ⟨pb,1,none⟩=some (.int .i64 qa.frm)∧W.cell? ⟨pb,2,none⟩=some (.int .i64 qa.period)∧W.cell? ⟨pb,3,none⟩=some (.slice z2 qa.cycle.length y2)∧W.cell? ⟨pb,8,none⟩=some (.int .i64 st)∧W.cell? ⟨pb,9,none⟩=some (.slice xa (isort (cycL qa st)).length xc)) (fun W hb=>⟨cux d0 hb,cux d1 hb,cux d2 hb,cux d3 hb,cux d8 hb,cux d9 hb⟩) trivial trivial ?steps ?fin
 case steps=>
  refine .c [] [] rfl ?_ (.c [0] [] rfl ?_ (.c [] [] rfl ?_ (.c [2] [] rfl ?_ (.c [1,3] [] rfl ?_ (.c [] [] rfl ?_ (.c [5] [] rfl ?_ (.c [6] [] rfl ?_ (.c [] [] rfl ?_ (.c [] [] rfl ?_ (.c [9] [] rfl ?_ (.c [10] [] rfl ?_ (.c [8,11] [] rfl ?_ (.c [7,12] [] rfl ?_ (.c [4,13] [] rfl ?_ (.c [0,1,2,3,4,5,6,7,8,9,10,11,12,13,14] [] rfl ?_ (.n))))))))))))))))
  all_goals try exact stw
  ·rintro v lo hi W hb ⟨g0,g1,g2,g3,g8,g9⟩ _
   refine .inl ⟨rfl,fun K hK=>?_⟩
   simp only [ov,vat,Nat.reduceBEq,cond_true,cond_false]
   go_wp2_with (go_at_call 85;refine (below_any _ _ qa st _ (HPA.out.a.ext (Et HE6.out hb)) HQA.out.wf (by omega) (by omega) (by omega) (by omega)).mono ?_;rintro e w7 ⟨he,hb7⟩;rw [← HBA.out] at he;subst he)
   exact acx (hK w7 hb7) (by simp [ov,vat,upd])
  ·rintro v lo hi W hb ⟨g0,g1,g2,g3,g8,g9⟩ _
   refine .inl ⟨rfl,fun K hK=>?_⟩
   simp only [ov,vat,Nat.reduceBEq,cond_true,cond_false]
   go_wp2_with fail
   exact acx (hK W (Below.refl _ _)) (by simp [ov,vat,upd,HRA.out])
 case fin=>
  rintro v lo hi W7 hb7 _ hf _
  show wpList _ _ _ [] _ _
  have f13:v 15=.int .i64 (bA+PA):=(hf 15 rfl).2.2.2
  clear hf
  dsimp only
  rw [f13]
  clear f13
  generalize v 0=u54
  generalize v 1=u55
  generalize v 2=u56
  generalize v 3=u57
  generalize v 4=u58
  generalize v 5=u59
  generalize v 6=u60
  generalize v 7=u61
  generalize v 8=u62
  generalize v 9=u63
  generalize v 10=u64
  generalize v 11=u65
  generalize v 12=u66
  generalize v 13=u67
  generalize v 14=u68
  clear v
  have hE8:Below W3.heap.size W3 W7:=Et HE6.out hb7
  have hown8:=HOWN6.out.ext hb7
  have hpb8:=HPB.out.below hE8
  have hsz8:=hE8.size
  clear d0 d1 d2 d3 d4 d5 d6 d7 d8 d9 d10 d11 d12 hb7
  obtain ⟨w8,rfl⟩:∃ w8,w8=W7:=⟨_,rfl⟩
  have d0:w8.cell? ⟨pb,0,none⟩=some (.slice z1 qa.head.length y1):=(hpb8.cells 0).1
  have d1:w8.cell? ⟨pb,1,none⟩=some (.int .i64 qa.frm):=(hpb8.cells 1).1
  have d2:w8.cell? ⟨pb,2,none⟩=some (.int .i64 qa.period):=(hpb8.cells 2).1
  have d3:w8.cell? ⟨pb,3,none⟩=some (.slice z2 qa.cycle.length y2):=(hpb8.cells 3).1
  have d4:w8.cell? ⟨pb,4,none⟩=some (.slice z3 qb.head.length y3):=(hpb8.cells 4).1
  have d5:w8.cell? ⟨pb,5,none⟩=some (.int .i64 qb.frm):=(hpb8.cells 5).1
  have d6:w8.cell? ⟨pb,6,none⟩=some (.int .i64 qb.period):=(hpb8.cells 6).1
  have d7:w8.cell? ⟨pb,7,none⟩=some (.slice z4 qb.cycle.length y4):=(hpb8.cells 7).1
  have d8:w8.cell? ⟨pb,8,none⟩=some (.int .i64 st):=(hpb8.cells 8).1
  have d9:w8.cell? ⟨pb,9,none⟩=some (.slice xa (isort (cycL qa st)).length xc):=(hpb8.cells 9).1
  have d10:w8.cell? ⟨pb,10,none⟩=some (.slice ya (isort (cycL qb st)).length yc):=(hpb8.cells 10).1
  have d11:w8.cell? ⟨pb,11,none⟩=some (.int .i64 g):=(hpb8.cells 11).1
  have d12:w8.cell? ⟨pb,12,none⟩=some (.map (some mb)):=(hpb8.cells 12).1
  have HPB8:=Lib.hid hpb8
  have HOWN8:=Lib.hid hown8
  have HE8:=Lib.hid hE8
  clear hpb8 hown8 hE8 HPB6
  go_wp2_with fail
  refine wp_region_W (w0:=w8) [0,1,2,3,4,5,6,7,8,9,10,11,12,13,14,15] [] (fun v=>⟨#[perV (.slice a1 p1.head.length m1) (.slice a2 p1.cycle.length m2) p1.frm p1.period,perV (.slice a3 p2.head.length m3) (.slice a4 p2.cycle.length m4) p2.frm p2.period,.int .i64 kd,.pointer (some ⟨w.heap.size,0,none⟩),.pointer (some ⟨w.heap.size+1,0,none⟩),undef,.pointer (some ⟨w.heap.size+1+1,0,none⟩),.int .i64 0,.pointer (some ⟨pb,0,none⟩),.int .i64 L,.int .i64 0,.slice hva HL.length hvc,.int .i64 (↑HL.length+↑cn),.int .i64 (bA+PA),v 15,undef,undef,undef,undef,undef,undef,undef,.agg #[.slice a1 p1.head.length m1,.int .i64 p1.frm,.int .i64 p1.period,.slice a2 p1.cycle.length m2],.bool true,.bool false,.bool false,.agg #[.slice a3 p2.head.length m3,.int .i64 p2.frm,.int .i64 p2.period,.slice a4 p2.cycle.length m4],.bool true,.bool false,.bool false,undef,.agg #[.slice a1 p1.head.length m1,.int .i64 p1.frm,.int .i64 p1.period,.slice a2 p1.cycle.length m2],.agg #[.slice a3 p2.head.length m3,.int .i64 p2.frm,.int .i64 p2.period,.slice a4 p2.cycle.length m4],pairV (.slice z1 qa.head.length y1) (.slice z2 qa.cycle.length y2) (.slice z3 qb.head.length y3) (.slice z4 qb.cycle.length y4) qa qb st (.slice xa (isort (cycL qa st)).length xc) (.slice ya (isort (cycL qb st)).length yc) g mb,.tuple #[.int .i64 L,.int .i64 0],.pointer (some ⟨pb,0,none⟩),.pointer (some ⟨pb,2,none⟩),.int .i64 qa.period,.pointer (some ⟨pb,4,none⟩),.pointer (some ⟨pb,6,none⟩),.int .i64 qb.period,.tuple #[.int .i64 L,.int .i64 0],.int .i64 L,.int .i64 0,.int .i64 0,.bool false,undef,.agg #[.slice z1 qa.head.length y1,.int .i64 qa.frm,.int .i64 qa.period,.slice z2 qa.cycle.length y2,.slice z3 qb.head.length y3,.int .i64 qb.frm,.int .i64 qb.period,.slice z4 qb.cycle.length y4,.int .i64 st,.slice xa (isort (cycL qa st)).length xc,.slice ya (isort (cycL qb st)).length yc,.int .i64 g,.map (some mb)],.slice hva HL.length hvc,.slice hva HL.length hvc,.int .i64 ↑HL.length,.agg #[.slice z1 qa.head.length y1,.int .i64 qa.frm,.int .i64 qa.period,.slice z2 qa.cycle.length y2,.slice z3 qb.head.length y3,.int .i64 qb.frm,.int .i64 qb.period,.slice z4 qb.cycle.length y4,.int .i64 st,.slice xa (isort (cycL qa st)).length xc,.slice ya (isort (cycL qb st)).length yc,.int .i64 g,.map (some mb)],.int .i64 ↑cn,.int .i64 (↑HL.length+↑cn),u54,u55,u56,u57,u58,u59,u60,u61,u62,u63,u64,u65,u66,u67,u68,v 0,v 1,v 2,v 3,v 4,v 5,v 6,v 7,v 8,v 9,v 10,v 11,v 12,v 13,v 14,undef,undef,undef,undef,undef,undef,undef,undef,undef,undef,undef,undef,undef,undef,undef,undef,undef,undef,undef,undef,undef,undef,undef,undef,undef,undef,undef,undef,undef,undef,undef,undef,undef,undef,undef,undef,undef,undef,undef,undef,undef,undef,undef,undef,undef,undef,undef,undef,undef,undef,undef,undef,undef,undef,undef,undef,undef,undef,undef,undef,undef,undef,undef,undef,undef,undef,undef,undef,undef,undef,undef,undef,undef,undef,undef,undef,undef,undef,undef,undef,undef,undef,undef],[]⟩) [.pointer (some ⟨pb,4,none⟩),perV (.slice z3 qb.head.length y3) (.slice z4 qb.cycle.length y4) qb.frm qb.period,.pointer (some ⟨pb,8,none⟩),.int .i64 st,.int .i64 bB,.pointer (some ⟨pb,10,none⟩),.slice ya (isort (cycL qb st)).length yc,.int .i64 (isort (cycL qb st)).length,.int .i64 L,.pointer (some ⟨pb,4,none⟩),.pointer (some ⟨pb,6,none⟩),.int .i64 qb.period,.int .i64 RB,.int .i64 PB,.int .i64 (bB+PB),.int .i64 (bB+PB)] [] (fun _ _ _ _ _=>True) (fun W=>W.cell? ⟨pb,4,none⟩=some (.slice z3 qb.head.length y3)∧W.cell? ⟨pb,5,none⟩=some (.int .i64 qb.frm)∧W.cell? ⟨pb,6,none⟩=some (.int .i64 qb.period)∧W.cell? ⟨pb,7,none⟩=some (.slice z4 qb.cycle.length y4)∧W.cell? ⟨pb,8,none⟩=some (.int .i64 st)∧W.cell? ⟨pb,10,none⟩=some (.slice ya (isort (cycL qb st)).length yc)) (fun W hb=>⟨cux d4 hb,cux d5 hb,cux d6 hb,cux d7 hb,cux d8 hb,cux d10 hb⟩) trivial trivial ?steps ?fin
  case steps=>
   refine .c [] [] rfl ?_ (.c [0] [] rfl ?_ (.c [] [] rfl ?_ (.c [2] [] rfl ?_ (.c [1,3] [] rfl ?_ (.c [] [] rfl ?_ (.c [5] [] rfl ?_ (.c [6] [] rfl ?_ (.c [] [] rfl ?_ (.c [] [] rfl ?_ (.c [9] [] rfl ?_ (.c [10] [] rfl ?_ (.c [8,11] [] rfl ?_ (.c [7,12] [] rfl ?_ (.c [4,13] [] rfl ?_ (.c [0,1,2,3,4,5,6,7,8,9,10,11,12,13,14] [] rfl ?_ (.n))))))))))))))))
   all_goals try exact stw
   ·rintro v lo hi W hb ⟨g4,g5,g6,g7,g8,g10⟩ _
    refine .inl ⟨rfl,fun K hK=>?_⟩
    simp only [ov,vat,Nat.reduceBEq,cond_true,cond_false]
    go_wp2_with (go_at_call 85;refine (below_any _ _ qb st _ (HPA.out.b.ext (Et HE8.out hb)) HQB.out.wf (by omega) (by omega) (by omega) (by omega)).mono ?_;rintro e w7 ⟨he,hb7⟩;rw [← HBB.out] at he;subst he)
    exact acx (hK w7 hb7) (by simp [ov,vat,upd])
   ·rintro v lo hi W hb ⟨g4,g5,g6,g7,g8,g10⟩ _
    refine .inl ⟨rfl,fun K hK=>?_⟩
    simp only [ov,vat,Nat.reduceBEq,cond_true,cond_false]
    go_wp2_with fail
    exact acx (hK W (Below.refl _ _)) (by simp [ov,vat,upd,HRB9.out])
  case fin=>
   rintro v lo hi W10 hb10 _ hf _
   show wpList _ _ _ [] _ _
   have f13:v 15=.int .i64 (bB+PB):=(hf 15 rfl).2.2.2
   clear hf
   dsimp only
   rw [f13]
   clear f13
   generalize v 0=t54
   generalize v 1=t55
   generalize v 2=t56
   generalize v 3=t57
   generalize v 4=t58
   generalize v 5=t59
   generalize v 6=t60
   generalize v 7=t61
   generalize v 8=t62
   generalize v 9=t63
   generalize v 10=t64
   generalize v 11=t65
   generalize v 12=t66
   generalize v 13=t67
   generalize v 14=t68
   clear v
   have hE10:Below W3.heap.size W3 W10:=Et HE8.out hb10
   have hown10:=HOWN8.out.ext hb10
   have hpb10:=HPB.out.below hE10
   have hsz10:=hE10.size
   clear d0 d1 d2 d3 d4 d5 d6 d7 d8 d9 d10 d11 d12 hb10
   obtain ⟨w10,rfl⟩:∃ w10,w10=W10:=⟨_,rfl⟩
   have HOWN10:=Lib.hid hown10
   have HE10:=Lib.hid hE10
   have d0:w10.cell? ⟨pb,0,none⟩=some (.slice z1 qa.head.length y1):=(hpb10.cells 0).1
   have d1:w10.cell? ⟨pb,1,none⟩=some (.int .i64 qa.frm):=(hpb10.cells 1).1
   have d2:w10.cell? ⟨pb,2,none⟩=some (.int .i64 qa.period):=(hpb10.cells 2).1
   have d3:w10.cell? ⟨pb,3,none⟩=some (.slice z2 qa.cycle.length y2):=(hpb10.cells 3).1
   have d4:w10.cell? ⟨pb,4,none⟩=some (.slice z3 qb.head.length y3):=(hpb10.cells 4).1
   have d5:w10.cell? ⟨pb,5,none⟩=some (.int .i64 qb.frm):=(hpb10.cells 5).1
   have d6:w10.cell? ⟨pb,6,none⟩=some (.int .i64 qb.period):=(hpb10.cells 6).1
   have d7:w10.cell? ⟨pb,7,none⟩=some (.slice z4 qb.cycle.length y4):=(hpb10.cells 7).1
   have d8:w10.cell? ⟨pb,8,none⟩=some (.int .i64 st):=(hpb10.cells 8).1
   have d9:w10.cell? ⟨pb,9,none⟩=some (.slice xa (isort (cycL qa st)).length xc):=(hpb10.cells 9).1
   have d10:w10.cell? ⟨pb,10,none⟩=some (.slice ya (isort (cycL qb st)).length yc):=(hpb10.cells 10).1
   have d11:w10.cell? ⟨pb,11,none⟩=some (.int .i64 g):=(hpb10.cells 11).1
   have d12:w10.cell? ⟨pb,12,none⟩=some (.map (some mb)):=(hpb10.cells 12).1
   have HPB10:=Lib.hid hpb10
   have hpl10:pb<w10.heap.size:=by have:=HZ3.out;omega
   clear hpb10 hown10 hE10 HPB8
   have hcn:=HCNT.out
   have hmx:max qa.frm qb.frm=st:=by have:=HSTT.out;omega
   rw [hmx] at hcn
   have HCNS:=Lib.hid hcn
   clear hmx hcn
   have hsn:=HFA.out.n
   rw [← HHL.out,← HCN.out] at hsn
   have hb1:=cnt_bound (fun n=>p1.mem n∧p2.mem n) (st+L).toNat
   have hn1:(HL.length:Int)+cn≤2199023255552:=by omega
   have HSN:=Lib.hid hsn
   clear hsn hb1
   go_upto_region 12 with (fail)
   refine wp_abs (F:=fun U=>Bxx U w10.heap.size #[.int .i64 (↑HL.length+↑cn),.int .i64 (bA+PA+(bB+PB)-(↑HL.length+↑cn)),.int .i64 (bA+PA-(↑HL.length+↑cn))] 143∧Below w10.heap.size w10 U) ⟨xB,xE⟩ ?_
   rintro W11 ⟨hbx,hE11⟩
   have x0:=(hbx.cells 0).1
   have x1:=(hbx.cells 1).1
   have x2:=(hbx.cells 2).1
   have hE11':=Et HE10.out hE11
   have hpb11:=HPB.out.below hE11'
   have hsz11:=hE11'.size
   have HOWN11:=Lib.hid (HOWN10.out.ext hE11)
   have HE11:=Lib.hid hE11'
   clear hbx hE11 hE11' d0 d1 d2 d3 d4 d5 d6 d7 d8 d9 d10 d11 d12 HOWN10
   have d0:W11.cell? ⟨pb,0,none⟩=some (.slice z1 qa.head.length y1):=(hpb11.cells 0).1
   have d1:W11.cell? ⟨pb,1,none⟩=some (.int .i64 qa.frm):=(hpb11.cells 1).1
   have d2:W11.cell? ⟨pb,2,none⟩=some (.int .i64 qa.period):=(hpb11.cells 2).1
   have d3:W11.cell? ⟨pb,3,none⟩=some (.slice z2 qa.cycle.length y2):=(hpb11.cells 3).1
   have d4:W11.cell? ⟨pb,4,none⟩=some (.slice z3 qb.head.length y3):=(hpb11.cells 4).1
   have d5:W11.cell? ⟨pb,5,none⟩=some (.int .i64 qb.frm):=(hpb11.cells 5).1
   have d6:W11.cell? ⟨pb,6,none⟩=some (.int .i64 qb.period):=(hpb11.cells 6).1
   have d7:W11.cell? ⟨pb,7,none⟩=some (.slice z4 qb.cycle.length y4):=(hpb11.cells 7).1
   have d8:W11.cell? ⟨pb,8,none⟩=some (.int .i64 st):=(hpb11.cells 8).1
   have d9:W11.cell? ⟨pb,9,none⟩=some (.slice xa (isort (cycL qa st)).length xc):=(hpb11.cells 9).1
   have d10:W11.cell? ⟨pb,10,none⟩=some (.slice ya (isort (cycL qb st)).length yc):=(hpb11.cells 10).1
   have d11:W11.cell? ⟨pb,11,none⟩=some (.int .i64 g):=(hpb11.cells 11).1
   have d12:W11.cell? ⟨pb,12,none⟩=some (.map (some mb)):=(hpb11.cells 12).1
   clear hpb11
   go_cut [97] (fun s wx=>s=.bool false∧wx=W11)
   case first=>
    have hcn:=HCNS.out
    have h1:=HSN.out
    have h2:=HIA.out
    have h4:=HIB.out
    rcases HKD.out with rfl|rfl|rfl
    ·rw [opS_and] at hcn
     have hnb:decide ((1048576:Int)<(HL.length:Int)+(cn:Int))=false:=by rw [decide_eq_false_iff_not];omega
     clear h1 h2 h4 hcn
     go_wp2_with fail
     go_meet
     exact ⟨rfl,rfl⟩
    ·rw [opS_or] at hcn
     have h3:=cnt_or_and p1.mem p2.mem (st+L).toNat
     have hnb:decide ((1048576:Int)<bA+PA+(bB+PB)-((HL.length:Int)+(cn:Int)))=false:=by rw [decide_eq_false_iff_not];omega
     clear h1 h2 h4 h3 hcn
     go_wp2_with fail
     go_meet
     exact ⟨rfl,rfl⟩
    ·rw [opS_minus] at hcn
     have h3:=cnt_minus p1.mem p2.mem (st+L).toNat
     have hnb:decide ((1048576:Int)<bA+PA-((HL.length:Int)+(cn:Int)))=false:=by rw [decide_eq_false_iff_not];omega
     clear h1 h2 h4 h3 hcn
     go_wp2_with fail
     go_meet
     exact ⟨rfl,rfl⟩
   case rest=>
    obtain ⟨rfl,rfl⟩:=hcut
    go_upto_block 0 with (fail)
    go_cut [16] (fun s wx=>∃ (va:Option Addr) (vc:Nat) (LL:List Int),s=.slice va LL.length vc∧Hid (OwnI wx W3.heap.size (.slice va LL.length vc) LL)∧Hid (Below W3.heap.size W3 wx)∧Hid (∀ x,x∈LL↔x∈sel (opS kd p1.mem p2.mem) 0 (st+L)))
    case first=>
     rcases HKD.out with rfl|rfl|rfl
     ·have hcn:=HCNS.out
      have hsn:=HSN.out
      rw [opS_and] at hcn
      have hn2:HL.length+cn≤1048576:=by omega
      obtain ⟨hpa,hpb⟩:=HPP.out rfl
      have hpbm:=HP.out.pairB (base:=W3.heap.size) (by have:=HZ3.out;omega)
      rw [HG.out] at hpbm
      have HPBM:=Lib.hid hpbm
      have HLM:Hid (HL.length+(meetL (isort (cycL qa st)) (isort (cycL qb st)) qa.period qb.period st).length≤4398046511104):=Lib.hid (by rw [← HFA.out.com,← HCN.out];omega)
      have HLB:Hid (lcmI qa.period qb.period≤1099511627776):=Lib.hid (by rw [HLL.out];exact hL)
      clear hpbm hcn hsn
      go_wp2_with (go_at_call 150;refine (meet_any _ _ _ _ qa qb st _ _ g mb W3.heap.size _ HL _ (HPBM.out.below HE11.out) HG.out.symm za1 hpa zb1 hpb HLB.out (by omega) (by omega) HFA.out.hx HFA.out.hy HOWN11.out (by omega) HLM.out).mono ?_;rintro e w11 ⟨v11,rfl,hown11,hb11⟩;obtain ⟨LL,hLL9⟩:∃ LL,LL=HL ++ meetL (isort (cycL qa st)) (isort (cycL qb st)) qa.period qb.period st:=⟨_,rfl⟩;rw [← hLL9] at hown11;have HLLQ:=Lib.hid hLL9;have HOW:=Lib.hid hown11;have HB11:=Lib.hid hb11;clear hown11 hb11 hLL9;obtain ⟨va,vc,rfl⟩:=HOW.out.form)
      go_meet
      refine ⟨va,vc,LL,rfl,HOW,Lib.hid (HE11.out.trans HB11.out),Lib.hid fun x=>?_⟩
      rw [opS_and,HLLQ.out,List.mem_append,HHL.out,HFA.out.headsEq,HFA.out.meet,sel_mem (Int.le_refl _),sel_mem (Int.le_refl _)]
      constructor
      ·rintro (⟨h1,h2,h3⟩|⟨h1,h2,h3⟩)
       ·exact ⟨h1,by omega,h3⟩
       ·exact ⟨by omega,h2,h3⟩
      ·rintro ⟨h1,h2,h3⟩
       by_cases hx:x<st
       ·exact .inl ⟨h1,hx,h3⟩
       ·exact .inr ⟨by omega,h2,h3⟩
     ·have hla:=(sel_rise (S:=qa.mem) (lo:=0) (hi:=st+L) (Int.le_refl _)).length_le (by omega)
      have hlb:=(sel_rise (S:=qb.mem) (lo:=0) (hi:=st+L) (Int.le_refl _)).length_le (by omega)
      obtain ⟨lA,hlA⟩:∃ lA,lA=sel qa.mem 0 (st+L):=⟨_,rfl⟩
      obtain ⟨lB,hlB⟩:∃ lB,lB=sel qb.mem 0 (st+L):=⟨_,rfl⟩
      rw [← hlA] at hla
      rw [← hlB] at hlb
      have HLA:=Lib.hid hlA
      have HLB9:=Lib.hid hlB
      clear hlA hlB
      go_upto_region 19 with (fail)
      have HE12:=HE11
      refine wp_region_W (w0:=wc) [0,1,2,3,4,5,6,7,8,9,10,11,12,13,14,15,16] [] (fun v=>⟨#[perV (.slice a1 p1.head.length m1) (.slice a2 p1.cycle.length m2) p1.frm p1.period,perV (.slice a3 p2.head.length m3) (.slice a4 p2.cycle.length m4) p2.frm p2.period,.int .i64 1,.pointer (some ⟨w.heap.size,0,none⟩),.pointer (some ⟨w.heap.size+1,0,none⟩),undef,.pointer (some ⟨w.heap.size+1+1,0,none⟩),.int .i64 0,.pointer (some ⟨pb,0,none⟩),.int .i64 L,.int .i64 0,.slice hva HL.length hvc,.int .i64 (↑HL.length+↑cn),.int .i64 (bA+PA),.int .i64 (bB+PB),.pointer (some ⟨w10.heap.size,0,none⟩),v 16,undef,undef,undef,undef,undef,u22,u23,u24,u25,u26,u27,u28,u29,u30,u31,u32,u33,u34,u35,u36,u37,u38,u39,u40,u41,u42,u43,u44,u45,u46,u47,u48,u49,u50,u51,u52,u53,u54,u55,u56,u57,u58,u59,u60,u61,u62,u63,u64,u65,u66,u67,u68,u69,u70,u71,u72,u73,u74,u75,u76,u77,u78,u79,u80,u81,u82,u83,u84,u85,u86,u87,u88,u89,u90,u91,u92,u93,u94,u95,u96,.bool false,u98,.int .i64 1,.bool false,.bool false,u102,u103,u104,.bool true,.bool true,v 0,v 1,v 2,v 3,v 4,v 5,v 6,v 7,v 8,v 9,v 10,v 11,v 12,v 13,v 14,v 15,undef,u124,u125,u126,u127,u128,u129,u130,u131,u132,u133,u134,u135,u136,u137,u138,u139,u140,u141,u142,u143,u144,u145,u146,u147,u148,undef,undef,undef,u152,u153,u154,u155,u156,u157,u158,u159,u160,u161,u162,u163,u164,u165,u166],[]⟩) [.pointer (some ⟨pb,0,none⟩),perV (.slice z1 qa.head.length y1) (.slice z2 qa.cycle.length y2) qa.frm qa.period,.pointer (some ⟨pb,8,none⟩),.int .i64 st,.int .i64 L,.int .i64 (st+L),undef,.pointer (some ⟨pb,4,none⟩),perV (.slice z3 qb.head.length y3) (.slice z4 qb.cycle.length y4) qb.frm qb.period,.pointer (some ⟨pb,8,none⟩),.int .i64 st,.int .i64 L,.int .i64 (st+L),undef,undef,undef,undef] [6,13,14,15,16] (fun i v lo hi W=>match i with|6=>(∃ a c,v 6=.slice a lA.length c)∧OwnAt W (lo 6) (hi 6) (v 6) lA|13=>(∃ a c,v 13=.slice a lB.length c)∧OwnAt W (lo 13) (hi 13) (v 13) lB|14=>v 14=.slice (some ⟨lo 14,0,none⟩) 2 2∧lo 14<hi 14∧Bxx W (lo 14) #[v 6,v 13] 37∧Ints W (v 6) lA∧Ints W (v 13) lB|15=>(∃ a c,v 15=.slice a (lA ++ lB).length c)∧OwnAt W (lo 15) (hi 15) (v 15) (lA ++ lB)|16=>(∃ a c,v 16=.slice a (lA ++ lB).length c)∧OwnAt W (lo 15) (hi 15) (v 16) (lA ++ lB)|_=>True) (fun W=>W.cell? ⟨pb,0,none⟩=some (.slice z1 qa.head.length y1)∧W.cell? ⟨pb,1,none⟩=some (.int .i64 qa.frm)∧W.cell? ⟨pb,2,none⟩=some (.int .i64 qa.period)∧W.cell? ⟨pb,3,none⟩=some (.slice z2 qa.cycle.length y2)∧W.cell? ⟨pb,4,none⟩=some (.slice z3 qb.head.length y3)∧W.cell? ⟨pb,5,none⟩=some (.int .i64 qb.frm)∧W.cell? ⟨pb,6,none⟩=some (.int .i64 qb.period)∧W.cell? ⟨pb,7,none⟩=some (.slice z4 qb.cycle.length y4)∧W.cell? ⟨pb,8,none⟩=some (.int .i64 st)) (fun W hb=>⟨cux d0 hb,cux d1 hb,cux d2 hb,cux d3 hb,cux d4 hb,cux d5 hb,cux d6 hb,cux d7 hb,cux d8 hb⟩) ?stab ?loc ?steps ?fin (fun j=>match j with|0=>u107|1=>u108|2=>u109|3=>u110|4=>u111|5=>u112|6=>u113|7=>u114|8=>u115|9=>u116|10=>u117|11=>u118|12=>u119|13=>u120|14=>u121|15=>u122|16=>.slice none 0 0|_=>undef)
      case stab=>
       refine ⟨?_,?_,?_,?_,?_,trivial⟩
       ·intro v lo hi W W' h hb
        exact ⟨h.1,h.2.below hb⟩
       ·intro v lo hi W W' h hb
        exact ⟨h.1,h.2.below hb⟩
       ·intro v lo hi W W' h hb
        exact ⟨h.1,h.2.1,h.2.2.1.below hb,h.2.2.2.1.ext hb,h.2.2.2.2.ext hb⟩
       ·intro v lo hi W W' h hb
        exact ⟨h.1,h.2.below hb⟩
       ·intro v lo hi W W' h hb
        exact ⟨h.1,h.2.below hb⟩
      case loc=>
       refine ⟨?_,?_,?_,?_,?_,trivial⟩
       ·intro v v' lo lo' hi hi' W hag h
        have q:=hag 6 (.inl rfl)
        (try dsimp only at h ⊢)
        simp only [q.1,q.2.1,q.2.2] at h
        exact h
       ·intro v v' lo lo' hi hi' W hag h
        have q:=hag 13 (.inl rfl)
        (try dsimp only at h ⊢)
        simp only [q.1,q.2.1,q.2.2] at h
        exact h
       ·intro v v' lo lo' hi hi' W hag h
        have q:=hag 14 (.inl rfl)
        have q6:=hag 6 (.inr (Rdp (by kernel_rfl)))
        have q13:=hag 13 (.inr (Rdp (by kernel_rfl)))
        (try dsimp only at h ⊢)
        simp only [q.1,q.2.1,q.2.2,q6.1,q6.2.1,q6.2.2,q13.1,q13.2.1,q13.2.2] at h
        exact h
       ·intro v v' lo lo' hi hi' W hag h
        have q:=hag 15 (.inl rfl)
        (try dsimp only at h ⊢)
        simp only [q.1,q.2.1,q.2.2] at h
        exact h
       ·intro v v' lo lo' hi hi' W hag h
        have q:=hag 16 (.inl rfl)
        have q15:=hag 15 (.inr (Rdp (by kernel_rfl)))
        (try dsimp only at h ⊢)
        simp only [q.1,q.2.1,q.2.2,q15.1,q15.2.1,q15.2.2] at h
        exact h
      case steps=>
       refine .c [] [] rfl ?_ (.c [0] [] rfl ?_ (.c [] [] rfl ?_ (.c [2] [] rfl ?_ (.c [] [] rfl ?_ (.c [3,4] [] rfl ?_ (.c [1,5] [] rfl ?_ (.c [] [] rfl ?_ (.c [7] [] rfl ?_ (.c [] [] rfl ?_ (.c [9] [] rfl ?_ (.c [] [] rfl ?_ (.c [10,11] [] rfl ?_ (.c [8,12] [] rfl ?_ (.c [] [6,13] rfl ?_ (.c [] [14] rfl ?_ (.c [] [15] rfl ?_ (.n)))))))))))))))))
       all_goals try exact stw
       ·rintro v lo hi W hb ⟨g0,g1,g2,g3,g4,g5,g6,g7,g8⟩ _
        refine .inl ⟨rfl,fun K hK=>?_⟩
        simp only [ov,vat,Nat.reduceBEq,cond_true,cond_false]
        go_wp2_with (go_at_call 152;refine (window_any _ _ qa 0 (st+L) _ (HPA.out.a.ext (Et HE12.out hb)) HQA.out.wf (by omega) (by omega) (by omega) (by omega) (by omega) (by omega)).mono ?_;rintro e w7 ⟨x,rfl,ho7,hb7⟩;rw [← HLA.out] at ho7)
        exact acx (hK x w7 hb7 ⟨ho7.form,ho7.at⟩) (by simp [ov,vat,upd])
       ·rintro v lo hi W hb ⟨g0,g1,g2,g3,g4,g5,g6,g7,g8⟩ _
        refine .inl ⟨rfl,fun K hK=>?_⟩
        simp only [ov,vat,Nat.reduceBEq,cond_true,cond_false]
        go_wp2_with (go_at_call 152;refine (window_any _ _ qb 0 (st+L) _ (HPA.out.b.ext (Et HE12.out hb)) HQB.out.wf (by omega) (by omega) (by omega) (by omega) (by omega) (by omega)).mono ?_;rintro e w7 ⟨x,rfl,ho7,hb7⟩;rw [← HLB9.out] at ho7)
        exact acx (hK x w7 hb7 ⟨ho7.form,ho7.at⟩) (by simp [ov,vat,upd])
       ·rintro v lo hi W hb ⟨g0,g1,g2,g3,g4,g5,g6,g7,g8⟩ ⟨⟨la6,lb6,D6⟩,⟨la13,lb13,D13⟩,_⟩
        refine .inl ⟨rfl,fun K hK=>?_⟩
        simp only [ov,vat,Nat.reduceBEq,cond_true,cond_false]
        (try dsimp only at D6 D13)
        obtain ⟨⟨a6,c6,e6⟩,o6⟩:=D6
        obtain ⟨⟨a13,c13,e13⟩,o13⟩:=D13
        have i6:=o6.inn.own.ints
        have i13:=o13.inn.own.ints
        (try simp only [e6,e13])
        go_wp2_with fail
        exact acx (hK (.slice (some ⟨W.heap.size,0,none⟩) 2 2) _ (Ea (Er _) _) ⟨rfl,by simp,by (try simp only [e6,e13]);exact Bxx.new _ _ _,i6.ext (Ea (Er _) _),i13.ext (Ea (Er _) _)⟩) (by simp [ov,vat,upd,e6,e13])
       ·rintro v lo hi W hb ⟨g0,g1,g2,g3,g4,g5,g6,g7,g8⟩ ⟨⟨la14,lb14,D14⟩,_⟩
        refine .inl ⟨rfl,fun K hK=>?_⟩
        simp only [ov,vat,Nat.reduceBEq,cond_true,cond_false]
        (try dsimp only at D14)
        obtain ⟨e14,h14a,h14b,h14c,h14d⟩:=D14
        (try simp only [e14])
        go_wp2_with (go_at_call 151;refine (concat_any (lo 14) 2 (v 6) (v 13) lA lB _ (fun i=>(h14b.cells i).1) h14c h14d (by omega) (by omega) (by omega)).mono ?_;rintro e w7 ⟨x,rfl,ho7,hb7⟩)
        exact acx (hK x w7 hb7 ⟨ho7.form,ho7.at⟩) (by simp [ov,vat,upd,e14])
       ·rintro v lo hi W hb ⟨g0,g1,g2,g3,g4,g5,g6,g7,g8⟩ ⟨⟨la15,lb15,D15⟩,_⟩
        refine .inl ⟨rfl,fun K hK=>?_⟩
        simp only [ov,vat,Nat.reduceBEq,cond_true,cond_false]
        (try dsimp only at D15)
        obtain ⟨⟨a15,c15,e15⟩,o15⟩:=D15
        (try simp only [e15])
        go_wp2_with fail
        exact acx (hK (v 15) W (Below.refl _ _) ⟨⟨a15,c15,e15⟩,o15⟩) (by simp [ov,vat,upd,e15])
      case fin=>
       rintro v lo hi W13 hb13 _ hf _
       show wpList _ _ _ [] _ _
       obtain ⟨_,_,k16,⟨ca,cc,e16⟩,o16⟩:=hf 16 rfl
       have k15:=(hf 15 rfl).1
       clear hf
       have hown11:=o16.inn.own.mono (base':=W3.heap.size) (by omega)
       rw [e16] at hown11
       clear o16
       dsimp only
       rw [e16]
       clear e16
       obtain ⟨LL,hLL9⟩:∃ LL,LL=lA ++ lB:=⟨_,rfl⟩
       rw [← hLL9]
       rw [← hLL9] at hown11
       have HLLQ:=Lib.hid hLL9
       have HOW:=Lib.hid hown11
       clear hown11 k15 k16 hLL9
       go_wp2_with fail
       go_meet
       refine ⟨ca,cc,LL,rfl,HOW,Lib.hid (Et HE12.out hb13),Lib.hid fun x=>?_⟩
       rw [opS_or,HLLQ.out,List.mem_append,HLA.out,HLB9.out,sel_mem (Int.le_refl _),sel_mem (Int.le_refl _),sel_mem (Int.le_refl _),HQA.out.mem,HQB.out.mem]
       constructor
       ·rintro (⟨h1,h2,h3⟩|⟨h1,h2,h3⟩)
        ·exact ⟨h1,h2,.inl h3⟩
        ·exact ⟨h1,h2,.inr h3⟩
       ·rintro ⟨h1,h2,h3|h3⟩
        ·exact .inl ⟨h1,h2,h3⟩
        ·exact .inr ⟨h1,h2,h3⟩
     ·have HLR:Hid (L=(RA.toNat:Int)*qa.period):=Lib.hid (by
       rw [Int.toNat_of_nonneg hRA0,HRA.out,Int.ediv_mul_cancel (by rw [← HLL.out];exact lcmI_dvd_left)])
      go_wp2_with (go_at_call 153;refine (without_any _ _ _ _ qa qb st _ _ g mb L _ (HPA.out.ext HE11.out) HQA.out.wf HQB.out.wf hs1 (by omega) RA.toNat HLR.out (by omega) HFA.out.hx (by omega) (by omega) (by omega) (by omega) (by omega)).mono ?_;rintro e w11 ⟨v11,rfl,hown11,hb11⟩;have HOW:=Lib.hid (hown11.mono (base':=W3.heap.size) (by omega));have HB11:=Lib.hid hb11;clear hown11 hb11;obtain ⟨va,vc,rfl⟩:=HOW.out.form)
      go_meet
      refine ⟨va,vc,_,rfl,HOW,Lib.hid (Et HE11.out HB11.out),Lib.hid fun x=>?_⟩
      rw [withW_mem HQA.out.wf HQB.out.wf hs1 hs2 HG.out.symm HLR.out,opS_minus]
      rw [sel_congr (T:=fun n=>p1.mem n∧¬ p2.mem n) (Int.le_refl _) (fun n=>by rw [HQA.out.mem,HQB.out.mem])]
    case rest=>
     obtain ⟨va,vc,LL,rfl,HOW11,HEB,HMEM⟩:=hcut
     have hown11:=HOW11.out
     have hsz11:W3.heap.size≤wc.heap.size:=HEB.out.size
     have HUP:Hid (PFrom (opS kd p1.mem p2.mem) st L):=Lib.hid (opS_pfrom ((HQA.out.pfrom.mono hs1).of_dvd za1 hL0 (by rw [← HLL.out];exact lcmI_dvd_left)) ((HQB.out.pfrom.mono hs2).of_dvd zb1 hL0 (by rw [← HLL.out];exact lcmI_dvd_right)))
     clear HOW11
     generalize wc=w11 at *
     go_upto_region 24 with ((first|(go_at_call 132;refine (sort_any _ LL W3.heap.size _ hown11).mono ?_;rintro e w12 ⟨rfl,hown12,hg12⟩;have hb12:=hown11.below_grown (W0:=w11) (.inr trivial) (by omega) hg12;have hsz12:=hg12.size)|(go_at_call 154;refine (compact_any _ (isort LL) W3.heap.size _ hown12).mono ?_;rintro e w13 ⟨v13,rfl,hown13,hg13,_⟩;have hb13:=hown12.below_grown (W0:=w12) (.inr trivial) (by omega) hg13;have hsz13:=hg13.size;rw [compact_isort (sel_rise (Int.le_refl 0)).1 HMEM.out] at hown13;obtain ⟨SL,hSL⟩:∃ SL,SL=sel (opS kd p1.mem p2.mem) 0 (st+L):=⟨_,rfl⟩;rw [← hSL] at hown13;have HSL:=Lib.hid hSL;clear hSL;obtain ⟨va3,vc3,rfl⟩:=hown13.form)))
     have hL9:1≤L:=hL0
     have hcp:=sel_countP (U:=opS kd p1.mem p2.mem) (show 0≤st by omega) (show st≤st+L by omega)
     rw [← HSL.out] at hcp
     obtain ⟨i0,hi0⟩:∃ i0,i0=(sel (opS kd p1.mem p2.mem) 0 st).length:=⟨_,rfl⟩
     rw [← hi0] at hcp
     have HI0:=Lib.hid hi0
     have HCP:=Lib.hid hcp
     have hSLs:SL.Pairwise (· < ·):=by rw [HSL.out];exact (sel_rise (Int.le_refl 0)).1
     have HSLS:=Lib.hid hSLs
     have hi0l:i0≤SL.length:=by have:=HCP.out.2.1;have h2:=congrArg List.length this;rw [List.length_take,← HI0.out] at h2;omega
     have hsll:(SL.length:Int)≤st+L:=by have:=(sel_rise (S:=opS kd p1.mem p2.mem) (lo:=0) (hi:=st+L) (Int.le_refl 0)).length_le (by omega);rw [← HSL.out] at this;omega
     have hints13:=hown13.ints
     have HIN13:=Lib.hid hints13
     obtain ⟨b3',hb3',hcap3⟩:∃ c',vc3=c'∧SL.length≤c':=by
      obtain ⟨⟨a,c,e,h1,h2,_⟩,_,_⟩:=hints13
      injection e with _ _ e3
      exact ⟨c,e3,h1⟩
     rw [← hb3'] at hcap3
     obtain ⟨ha',hrun',hint'⟩:=slice_head (a:=va3) (c:=vc3) SL hi0l hcap3
     obtain ⟨da',drun',dint',_⟩:=slice_from (a:=va3) (c:=vc3) SL hi0l
     have HINT':=Lib.hid hint'
     have HDINT':=Lib.hid dint'
     have hbB:Below W3.heap.size W3 w13:=(HEB.out).trans (hb12.trans hb13)
     have HBB13:=Lib.hid hbB
     have HOWN13:=Lib.hid hown13
     have hpb13:=HPB.out.below hbB
     have m8:w13.cell? ⟨pb,8,none⟩=some (.int .i64 st):=(hpb13.cells 8).1
     have hinn13:=hown13.inn
     have HINN13:=Lib.hid hinn13
     clear hi0 hcp hSLs hints13 hb3' hint' dint' hbB hown13 hown12 hg12 hg13 hpb13 hinn13
     clear d0 d1 d2 d3 d4 d5 d6 d7 d8 d9 d10 d11 d12
     go_upto_region 25 with (go_at_call 128;refine (search_any _ SL st _ HIN13.out HSLS.out).mono ?_;rintro e w14 ⟨he,nq14,rfl⟩;rw [HCP.out.1] at he;generalize decide (st∈SL)=dB at he;subst he)
     obtain ⟨w14,hw14⟩:∃ w14,w14=w13.drewN nq14:=⟨_,rfl⟩
     rw [← hw14]
     have hE14:Below W3.heap.size W3 w14:=by rw [hw14];exact HBB13.out.trans (Below.drewN (Below.refl _ _) _)
     have hin14:IntsIn w14 W3.heap.size w13.heap.size (.slice va3 SL.length vc3) SL:=by rw [hw14];exact HINN13.out.drewN _
     have m8:w14.cell? ⟨pb,8,none⟩=some (.int .i64 st):=by rw [hw14];exact m8
     have hsz14:w13.heap.size≤w14.heap.size:=by rw [hw14,size_drewN];exact Nat.le_refl _
     have HE14:=Lib.hid hE14
     have HIN14:=Lib.hid hin14
     clear hw14 hE14 hin14
     refine wp_region_W (w0:=w14) [0,1,2,3,4,5,6,7,8] [9] (fun v=>⟨#[perV (.slice a1 p1.head.length m1) (.slice a2 p1.cycle.length m2) p1.frm p1.period,perV (.slice a3 p2.head.length m3) (.slice a4 p2.cycle.length m4) p2.frm p2.period,.int .i64 kd,.pointer (some ⟨w.heap.size,0,none⟩),.pointer (some ⟨w.heap.size+1,0,none⟩),undef,.pointer (some ⟨w.heap.size+1+1,0,none⟩),.int .i64 0,.pointer (some ⟨pb,0,none⟩),.int .i64 L,.int .i64 0,.slice hva HL.length hvc,.int .i64 (↑HL.length+↑cn),.int .i64 (bA+PA),.int .i64 (bB+PB),.pointer (some ⟨w10.heap.size,0,none⟩),.slice va3 SL.length vc3,.int .i64 ↑i0,.bool dB,v 8,undef,undef,u22,u23,u24,u25,u26,u27,u28,u29,u30,u31,u32,u33,u34,u35,u36,u37,u38,u39,u40,u41,u42,u43,u44,u45,u46,u47,u48,u49,u50,u51,u52,u53,u54,u55,u56,u57,u58,u59,u60,u61,u62,u63,u64,u65,u66,u67,u68,u69,u70,u71,u72,u73,u74,u75,u76,u77,u78,u79,u80,u81,u82,u83,u84,u85,u86,u87,u88,u89,u90,u91,u92,u93,u94,u95,u96,u97,u98,.int .i64 kd,u100,u101,u102,u103,u104,u105,u106,u107,u108,u109,u110,u111,u112,u113,u114,u115,u116,u117,u118,u119,u120,u121,u122,u123,u124,u125,u126,u127,.slice va LL.length vc,.tuple #[],.slice va LL.length vc,.slice va3 SL.length vc3,.tuple #[.int .i64 ↑i0,.bool dB],.slice va3 SL.length vc3,.pointer (some ⟨pb,8,none⟩),.int .i64 st,.tuple #[.int .i64 ↑i0,.bool dB],.int .i64 ↑i0,.bool dB,v 0,v 1,v 2,v 3,v 4,v 5,v 6,v 7,u147,u148,undef,undef,undef,u152,u153,u154,u155,u156,u157,u158,u159,u160,u161,u162,u163,u164,u165,u166],[]⟩) [.slice va3 SL.length vc3,.int .i64 i0,.int .i64 i0,.slice ha' i0 i0,.pointer (some ⟨pb,8,none⟩),.int .i64 st,.int .i64 L,.agg #[.slice ha' i0 i0,.int .i64 st,.int .i64 L,.slice none 0 0],undef] [8] (fun i v lo hi W=>match i with|8=>v 8=.pointer (some ⟨lo 8,0,none⟩)∧lo 8<hi 8∧Bxx W (lo 8) #[.slice none 0 0,.int .i64 0,.int .i64 0,.slice none 0 0] 39|_=>True) (fun W=>W.cell? ⟨pb,8,none⟩=some (.int .i64 st)) (fun W hb=>cux m8 hb) ?stab ?loc ?steps ?fin (fun j=>match j with|0=>u139|1=>u140|2=>u141|3=>u142|4=>u143|5=>u144|6=>u145|7=>u146|8=>undef|_=>undef)
     case stab=>
      refine ⟨?_,trivial⟩
      ·intro v lo hi W W' h hb
       exact ⟨h.1,h.2.1,h.2.2.below hb⟩
     case loc=>
      refine ⟨?_,trivial⟩
      ·intro v v' lo lo' hi hi' W hag h
       have q:=hag 8 (.inl rfl)
       (try dsimp only at h ⊢)
       simp only [q.1,q.2.1,q.2.2] at h
       exact h
     case steps=>
      refine .c [] [] rfl ?_ (.c [] [] rfl ?_ (.c [] [] rfl ?_ (.c [0,1,2] [] rfl ?_ (.c [] [] rfl ?_ (.c [4] [] rfl ?_ (.c [] [] rfl ?_ (.c [3,5,6] [] rfl ?_ (.c [] [] rfl ?_ (.n)))))))))
      all_goals try exact stw
      ·rintro v lo hi W hb g8 _
       refine .inl ⟨rfl,fun K hK=>?_⟩
       simp only [ov,vat,Nat.reduceBEq,cond_true,cond_false]
       go_wp2_with fail
       exact hK (.pointer (some ⟨W.heap.size,0,none⟩)) _ (Ea (Er _) _) ⟨rfl,by simp,Bxx.new _ _ _⟩
     case fin=>
      rintro v lo hi W15 hb15 _ hf _
      show wpList _ _ _ [_] _ _
      have e7:v 7=.agg #[.slice ha' i0 i0,.int .i64 st,.int .i64 L,.slice none 0 0]:=(hf 7 rfl).2.2.2
      obtain ⟨l8,_,k8,e8,lt8,hob⟩:=hf 8 rfl
      clear hf
      generalize lo 8=ob at *
      generalize hi 8=hi8 at *
      dsimp only
      rw [e7,e8]
      clear e7 e8
      generalize v 0=o0
      generalize v 1=o1
      generalize v 2=o2
      generalize v 3=o3
      generalize v 4=o4
      generalize v 5=o5
      generalize v 6=o6
      clear v
      have k0:=hob.cells 0
      have k1:=hob.cells 1
      have k2:=hob.cells 2
      have k3:=hob.cells 3
      have hob':w13.heap.size≤ob:=by omega
      have hpb3:=HZ3.out
      go_upto_region 26 with (fail)
      refine wp_abs (F:=fun W16=>Bxx W16 ob #[.slice ha' i0 i0,.int .i64 st,.int .i64 L,.slice none 0 0] 39∧IntsIn W16 W3.heap.size w13.heap.size (.slice va3 SL.length vc3) SL∧Below W3.heap.size W3 W16)
       ⟨Bxx.set4 hob,(((((HIN14.out.below hb15 hsz14).set _ (by omega)).set _ (by omega)).set _ (by omega)).set _ (by omega)),((((HE14.out.trans (hb15.mono (by omega))).setCell (p:=⟨ob,0,none⟩) (by simp;omega) _).setCell (p:=⟨ob,1,none⟩) (by simp;omega) _).setCell (p:=⟨ob,2,none⟩) (by simp;omega) _).setCell (p:=⟨ob,3,none⟩) (by simp;omega) _⟩ ?_
      clear hob k0 k1 k2 k3 m8 hb15
      rintro W16 ⟨hob,hin16,hE16⟩
      have hsz16:=hE16.size
      have hobl:=hob.lt
      have HOB:=Lib.hid hob
      have HIN16:=Lib.hid hin16
      have HE16:=Lib.hid hE16
      clear hob hin16 hE16
      obtain ⟨DR,hDR⟩:∃ DR,DR=SL.drop i0:=⟨_,rfl⟩
      have HDR:=Lib.hid hDR
      have hdl:DR.length=SL.length-i0:=by rw [hDR];simp
      have hdm:∀ y∈DR,st≤y∧y<st+L:=fun y hy=>by
       rw [hDR,HCP.out.2.2] at hy
       have:=(sel_mem (show 0≤st by omega) y).1 hy;omega
      have HDM:=Lib.hid hdm
      have HDL:=Lib.hid hdl
      clear hDR hdl hdm
      go_wp2_with fail
      go_loopw [151] (fun i wr=>∃ (k:Nat) (cv:Value),k≤SL.length-i0∧i=.int .i64 k∧Bxx wr ob #[.slice ha' i0 i0,.int .i64 st,.int .i64 L,cv] 39∧OwnI wr W16.heap.size cv ((DR.take k).map (· - st))∧W16.grownBy wr (some ob)) (fun i _=>SL.length-i0-(intOf i).toNat)
      case atStart=>exact ⟨0,.slice none 0 0,by omega,rfl,HOB.out,OwnI.nil _ _,World.grownBy.refl _ _⟩
      case round=>
       obtain ⟨k,cv,hk,rfl,hob,hown,hgr⟩:=hrel
       have hszr:=hgr.size
       obtain ⟨ca,cc,rfl⟩:=hown.form
       have hinr:=HIN16.out.of_blocks (w':=wr) fun j h1 h2=>hgr.block j (by omega) (by simp;omega)
       by_cases hlt:k<SL.length-i0
       ·obtain ⟨⟨a8,c8,he8,_,_,h38⟩,_,hrng⟩:=HDINT'.out wr hinr.ints
        rw [← HDR.out] at he8 h38 hrng
        have hltD:k<DR.length:=by rw [HDL.out];exact hlt
        rcases h38 with h38|⟨b8,f8,hb8,hcell⟩
        ·rw [h38] at hltD;simp at hltD
        injection he8 with he1 he2 he3
        rw [hb8] at he1
        subst he1
        have hcl:=hcell k hltD
        have hyb:=HDM.out _ (getD_mem hltD)
        have hkI:(k:Int)<((SL.length-i0:Nat):Int):=by omega
        have hts:(DR.take (k+1)).map (· - st)=(DR.take k).map (· - st) ++ [DR.getD k 0-st]:=by
         rw [List.take_succ_eq_append_getElem hltD,List.map_append];simp [hltD]
        obtain ⟨y,hy⟩:∃ y,y=DR.getD k 0:=⟨_,rfl⟩
        rw [← hy] at hcl hyb hts
        obtain ⟨CL,hCL⟩:∃ CL,CL=(DR.take k).map (· - st):=⟨_,rfl⟩
        have hcll:CL.length≤k:=by rw [hCL];simp;omega
        rw [← hCL] at hown hob hts
        have q3:wr.cell? ⟨ob,3,none⟩=some (.slice ca CL.length cc):=(hob.cells 3).1
        have hpbr:Bxx wr pb #[.slice z1 qa.head.length y1,.int .i64 qa.frm,.int .i64 qa.period,.slice z2 qa.cycle.length y2,.slice z3 qb.head.length y3,.int .i64 qb.frm,.int .i64 qb.period,.slice z4 qb.cycle.length y4,.int .i64 st,.slice xa (isort (cycL qa st)).length xc,.slice ya (isort (cycL qb st)).length yc,.int .i64 g,.map (some mb)] 139:=(hgr.block pb (by omega) (by simp;omega)).trans (HPB.out.below HE16.out)
        have q8:wr.cell? ⟨pb,8,none⟩=some (.int .i64 st):=(hpbr.cells 8).1
        have HTS:=Lib.hid hts
        have HOBr:=Lib.hid hob
        have HOWNr:=Lib.hid hown
        have HGR:=Lib.hid hgr
        clear hob hown hgr hinr hts hy hCL hcell hpbr hb8 he2 he3 hrng
        go_wp2_with (at_builtin;refine append_list (by rfl) _ _ (by rfl) W16.heap.size (.slice ca CL.length cc) CL (y-st) (by rfl) (HOWNr.out.ext (Ea (Er _) _)) _ _ (by rfl) (by simp) ⟨by omega,by omega⟩ (by omega) (by simp;omega) ?_;intro gg cap w17 hown17 hgrow17 hbel17;have hob17:=(HOBr.out.alloc (.cells #[.int .i64 (y-st)] 3)).upto hbel17 hobl;have r1:=(hob17.cells 3).1;have r2:=(hob17.cells 3).2)
        go_roundw
        case rel=>
         refine ⟨k+1,.slice (some ⟨gg,0,none⟩) (CL.length+1) cap,by omega,by go_num,heap_set_at 3 _ hob17,?_,grown_ob HGR.out (((Below.refl _ wr).alloc hszr _).trans hbel17)⟩
         rw [HTS.out]
         exact hown17.above ((Above.refl _ w17).setCell (by simp;omega) _)
        case measure=>simp [intOf];omega
       ·obtain rfl:k=SL.length-i0:=by omega
        have hall:DR.take (SL.length-i0)=DR:=by rw [← HDL.out];exact List.take_length
        rw [hall] at hown
        have hset:=set_of (U:=opS kd p1.mem p2.mem) (st:=st) (L:=L) (by omega) hL9 (fun n h=>opS_nonneg h) HUP.out
        obtain ⟨CL,hCL⟩:∃ CL,CL=DR.map (· - st):=⟨_,rfl⟩
        rw [hall,← hCL] at hob
        rw [← hCL] at hown
        have hPIS:PerIs wr (.slice ha' i0 i0) (.slice ca CL.length cc) (Per.mk (sel (opS kd p1.mem p2.mem) 0 st) st L ((sel (opS kd p1.mem p2.mem) st (st+L)).map (· - st))):=by
         refine ⟨?_,?_⟩
         ·have:=HINT'.out wr hinr.ints
          rw [HCP.out.2.1] at this;exact this
         ·have:=hown.ints
          rw [hCL,HDR.out,HCP.out.2.2] at this
          rw [hCL,HDR.out,HCP.out.2.2];exact this
        have hEr:Below w.heap.size w wr:=⟨hgr.os.trans (HE16.out.os.trans hE3.os),hgr.tape.trans (HE16.out.tape.trans hE3.tape),hgr.output.trans (HE16.out.output.trans hE3.output),by have:=hE3.size;omega,fun j hj=>(hgr.block j (by have:=hE3.size;omega) (by simp;omega)).trans ((HE16.out.block j (by have:=hE3.size;omega)).trans (hE3.block j hj))⟩
        have hrbr:Bxx wr (w.heap.size+2) #[.slice none 0 0,.int .i64 0,.int .i64 0,.slice none 0 0] 39:=(hgr.block _ (by omega) (by simp;omega)).trans (HRB.out.below HE16.out)
        have q0:wr.cell? ⟨ob,0,none⟩=some (.slice ha' i0 i0):=(hob.cells 0).1
        have q1:wr.cell? ⟨ob,1,none⟩=some (.int .i64 st):=(hob.cells 1).1
        have q2:wr.cell? ⟨ob,2,none⟩=some (.int .i64 L):=(hob.cells 2).1
        have q3:wr.cell? ⟨ob,3,none⟩=some (.slice ca CL.length cc):=(hob.cells 3).1
        have HSET:=Lib.hid hset
        have HPIS:=Lib.hid hPIS
        have HER:=Lib.hid hEr
        have HRBR:=Lib.hid hrbr
        have HQ:Hid (IsCanon q (Per.mk (sel (opS kd p1.mem p2.mem) 0 st) st L ((sel (opS kd p1.mem p2.mem) st (st+L)).map (· - st))).mem):=Lib.hid (hq.congr fun n=>(hset.2 n).symm)
        clear hset hPIS hEr hrbr hob hown hgr hinr hall hCL
        go_wp2_with (go_at_call 88;refine (canon_any _ _ (Per.mk (sel (opS kd p1.mem p2.mem) 0 st) st L ((sel (opS kd p1.mem p2.mem) st (st+L)).map (· - st))) q _ HPIS.out HSET.out.1 (by show st≤_;omega) (by show L≤_;omega) HQ.out).mono ?_;rintro e w18 ⟨r1,r2,rfl,ho18,hb18⟩;obtain ⟨n1,j1,n2,j2,rfl,rfl⟩:=ho18.form;have hrb18:=HRBR.out.below hb18;have g0:=hrb18.cells 0;have g1:=hrb18.cells 1;have g2:=hrb18.cells 2;have g3:=hrb18.cells 3;have hsz18:=hb18.size)
        have hEr:=HER.out
        exact bodyPost_ret (v:=.tuple #[perV (.slice n1 q.head.length j1) (.slice n2 q.cycle.length j2) q.frm q.period,.int .i64 0]) (by simp [results,Tryz.results119,go_sem, *]) rfl ⟨_,_,rfl,(ho18.above (by (repeat' (with_reducible first|exact Above.refl _ _|refine Above.alloc ?_ _|refine Above.drew ?_|refine Above.drewN ?_ _|refine Above.setCell ?_ (by first|(simp;done)|(simp;omega)|omega) _)))).mono (by omega),xE⟩
theorem operate_and (h1 c1 h2 c2:Value) (p1 p2 qa qb q:Per) (w:World) (hp1:PerIs w h1 c1 p1) (hp2:PerIs w h2 c2 p2) (hv1:Valid p1) (hv2:Valid p2) (hqa:IsCanon qa p1.mem) (hqb:IsCanon qb p2.mem)
  (hL:lcmI qa.period qb.period≤1099511627776) (hpa:qa.period≤4294967295) (hpb:qb.period≤4294967295)
  (hq:IsCanon q (fun n=>p1.mem n∧p2.mem n)) (hcn:cnt (fun n=>p1.mem n∧p2.mem n) (max qa.frm qb.frm+lcmI qa.period qb.period).toNat≤1048576) :
  Calls Tryz.prog 119 #[perV h1 c1 p1.frm p1.period,perV h2 c2 p2.frm p2.period,.int .i64 0] w (PerOk q w):=
 operate_ok 0 (.inl rfl) h1 c1 h2 c2 p1 p2 qa qb q w hp1 hp2 hv1 hv2 hqa hqb hL (fun _=>⟨hpa,hpb⟩) (opS_and _ _ ▸ hq) (opS_and _ _ ▸ hcn)
theorem operate_or (h1 c1 h2 c2:Value) (p1 p2 qa qb q:Per) (w:World) (hp1:PerIs w h1 c1 p1) (hp2:PerIs w h2 c2 p2) (hv1:Valid p1) (hv2:Valid p2) (hqa:IsCanon qa p1.mem) (hqb:IsCanon qb p2.mem)
  (hL:lcmI qa.period qb.period≤1099511627776)
  (hq:IsCanon q (fun n=>p1.mem n∨p2.mem n)) (hcn:cnt (fun n=>p1.mem n∨p2.mem n) (max qa.frm qb.frm+lcmI qa.period qb.period).toNat≤1048576) :
  Calls Tryz.prog 119 #[perV h1 c1 p1.frm p1.period,perV h2 c2 p2.frm p2.period,.int .i64 1] w (PerOk q w):=
 operate_ok 1 (.inr (.inl rfl)) h1 c1 h2 c2 p1 p2 qa qb q w hp1 hp2 hv1 hv2 hqa hqb hL (fun h=>by omega) (opS_or _ _ ▸ hq) (opS_or _ _ ▸ hcn)
theorem operate_minus (h1 c1 h2 c2:Value) (p1 p2 qa qb q:Per) (w:World) (hp1:PerIs w h1 c1 p1) (hp2:PerIs w h2 c2 p2) (hv1:Valid p1) (hv2:Valid p2) (hqa:IsCanon qa p1.mem) (hqb:IsCanon qb p2.mem)
  (hL:lcmI qa.period qb.period≤1099511627776)
  (hq:IsCanon q (fun n=>p1.mem n∧¬ p2.mem n)) (hcn:cnt (fun n=>p1.mem n∧¬ p2.mem n) (max qa.frm qb.frm+lcmI qa.period qb.period).toNat≤1048576) :
  Calls Tryz.prog 119 #[perV h1 c1 p1.frm p1.period,perV h2 c2 p2.frm p2.period,.int .i64 2] w (PerOk q w):=
 operate_ok 2 (.inr (.inr rfl)) h1 c1 h2 c2 p1 p2 qa qb q w hp1 hp2 hv1 hv2 hqa hqb hL (fun h=>by omega) (opS_minus _ _ ▸ hq) (opS_minus _ _ ▸ hcn)
end Go.Proofs.YthjnojbeimchdaaGreat
/- Walks: list, numbers, Equal, every, canonical, And, Or, Minus. -/
namespace Go.Proofs.YthjnojbeimchdaaGreat
open Go.RowKit Go.Maps Kal
theorem take_step {l1 l2:List Int} {k:Nat} (hl:l1.length=l2.length) (hk:k<l1.length) (h:l1.take k=l2.take k) (he:l1.getD k 0=l2.getD k 0):l1.take (k+1)=l2.take (k+1):=by
 rw [List.take_add_one,List.take_add_one,h]
 have h2:k<l2.length:=by omega
 rw [List.getD_eq_getElem?_getD,List.getD_eq_getElem?_getD,List.getElem?_eq_getElem hk,List.getElem?_eq_getElem h2] at he
 rw [List.getElem?_eq_getElem hk,List.getElem?_eq_getElem h2]
 simp at he
 simp [he]
theorem per_eq_iff (p q:Per):p=q↔p.frm=q.frm∧p.period=q.period∧p.head=q.head∧p.cycle=q.cycle:=by
 constructor
 ·rintro rfl;simp
 ·rintro ⟨h1,h2,h3,h4⟩;cases p;cases q;simp_all
instance:DecidableEq Per:=fun p q=>decidable_of_iff _ (per_eq_iff p q).symm
set_option maxRecDepth 100000 in
set_option maxHeartbeats 1000000 in
theorem And_ok (h1 c1 h2 c2:Value) (p1 p2 qa qb q:Per) (w:World) (hp1:PerIs w h1 c1 p1) (hp2:PerIs w h2 c2 p2) (hv1:Valid p1) (hv2:Valid p2) (hqa:IsCanon qa p1.mem) (hqb:IsCanon qb p2.mem)
  (hL:lcmI qa.period qb.period≤1099511627776) (hpa:qa.period≤4294967295) (hpb:qb.period≤4294967295)
  (hq:IsCanon q (fun n=>p1.mem n∧p2.mem n)) (hcn:cnt (fun n=>p1.mem n∧p2.mem n) (max qa.frm qb.frm+lcmI qa.period qb.period).toNat≤1048576) :
  Calls Tryz.prog 72 #[perV h1 c1 p1.frm p1.period,perV h2 c2 p2.frm p2.period] w (PerOk q w):=by
 have HOP:∀ W,Below w.heap.size w W→Calls Tryz.prog 119 #[perV h1 c1 p1.frm p1.period,perV h2 c2 p2.frm p2.period,.int .i64 0] W (PerOk q W):=fun W hb=>operate_and h1 c1 h2 c2 p1 p2 qa qb q W (hp1.ext hb) (hp2.ext hb) hv1 hv2 hqa hqb hL hpa hpb hq hcn
 clear hp1 hp2 hv1 hv2 hqa hqb hL hpa hpb hq hcn
 go_enter Tryz.func72,Tryz.ntmps72
 go_wp2_with (go_at_call 119;refine (HOP _ xE).mono ?_;rintro e w2 ⟨h',c',rfl,hp2,hb2⟩;obtain ⟨a1,c1,a2,c2,rfl,rfl⟩:=hp2.form;obtain ⟨hc2,hf2⟩:=bcell hb2;have HP2:=Lib.hid hp2;clear hp2)
 exact bodyPost_ret (v:=.tuple #[perV (.slice a1 q.head.length c1) (.slice a2 q.cycle.length c2) q.frm q.period,.int .i64 0]) (by simp [results,Tryz.results72,go_sem, *]) rfl ⟨_,_,rfl,(HP2.out.above (by (repeat' (with_reducible first|exact Above.refl _ _|refine Above.alloc ?_ _|refine Above.drew ?_|refine Above.drewN ?_ _|refine Above.setCell ?_ (by first|(simp;done)|(simp;omega)|omega) _)))).mono (by simp;omega),xE⟩
set_option maxRecDepth 100000 in
set_option maxHeartbeats 1000000 in
theorem Or_ok (h1 c1 h2 c2:Value) (p1 p2 qa qb q:Per) (w:World) (hp1:PerIs w h1 c1 p1) (hp2:PerIs w h2 c2 p2) (hv1:Valid p1) (hv2:Valid p2) (hqa:IsCanon qa p1.mem) (hqb:IsCanon qb p2.mem)
  (hL:lcmI qa.period qb.period≤1099511627776)
  (hq:IsCanon q (fun n=>p1.mem n∨p2.mem n)) (hcn:cnt (fun n=>p1.mem n∨p2.mem n) (max qa.frm qb.frm+lcmI qa.period qb.period).toNat≤1048576) :
  Calls Tryz.prog 73 #[perV h1 c1 p1.frm p1.period,perV h2 c2 p2.frm p2.period] w (PerOk q w):=by
 have HOP:∀ W,Below w.heap.size w W→Calls Tryz.prog 119 #[perV h1 c1 p1.frm p1.period,perV h2 c2 p2.frm p2.period,.int .i64 1] W (PerOk q W):=fun W hb=>operate_or h1 c1 h2 c2 p1 p2 qa qb q W (hp1.ext hb) (hp2.ext hb) hv1 hv2 hqa hqb hL hq hcn
 clear hp1 hp2 hv1 hv2 hqa hqb hL hq hcn
 go_enter Tryz.func73,Tryz.ntmps73
 go_wp2_with (go_at_call 119;refine (HOP _ xE).mono ?_;rintro e w2 ⟨h',c',rfl,hp2,hb2⟩;obtain ⟨a1,c1,a2,c2,rfl,rfl⟩:=hp2.form;obtain ⟨hc2,hf2⟩:=bcell hb2;have HP2:=Lib.hid hp2;clear hp2)
 exact bodyPost_ret (v:=.tuple #[perV (.slice a1 q.head.length c1) (.slice a2 q.cycle.length c2) q.frm q.period,.int .i64 0]) (by simp [results,Tryz.results73,go_sem, *]) rfl ⟨_,_,rfl,(HP2.out.above (by (repeat' (with_reducible first|exact Above.refl _ _|refine Above.alloc ?_ _|refine Above.drew ?_|refine Above.drewN ?_ _|refine Above.setCell ?_ (by first|(simp;done)|(simp;omega)|omega) _)))).mono (by simp;omega),xE⟩
set_option maxRecDepth 100000 in
set_option maxHeartbeats 1000000 in
theorem Minus_ok (h1 c1 h2 c2:Value) (p1 p2 qa qb q:Per) (w:World) (hp1:PerIs w h1 c1 p1) (hp2:PerIs w h2 c2 p2) (hv1:Valid p1) (hv2:Valid p2) (hqa:IsCanon qa p1.mem) (hqb:IsCanon qb p2.mem)
  (hL:lcmI qa.period qb.period≤1099511627776)
  (hq:IsCanon q (fun n=>p1.mem n∧¬ p2.mem n)) (hcn:cnt (fun n=>p1.mem n∧¬ p2.mem n) (max qa.frm qb.frm+lcmI qa.period qb.period).toNat≤1048576) :
  Calls Tryz.prog 117 #[perV h1 c1 p1.frm p1.period,perV h2 c2 p2.frm p2.period] w (PerOk q w):=by
 have HOP:∀ W,Below w.heap.size w W→Calls Tryz.prog 119 #[perV h1 c1 p1.frm p1.period,perV h2 c2 p2.frm p2.period,.int .i64 2] W (PerOk q W):=fun W hb=>operate_minus h1 c1 h2 c2 p1 p2 qa qb q W (hp1.ext hb) (hp2.ext hb) hv1 hv2 hqa hqb hL hq hcn
 clear hp1 hp2 hv1 hv2 hqa hqb hL hq hcn
 go_enter Tryz.func117,Tryz.ntmps117
 go_wp2_with (go_at_call 119;refine (HOP _ xE).mono ?_;rintro e w2 ⟨h',c',rfl,hp2,hb2⟩;obtain ⟨a1,c1,a2,c2,rfl,rfl⟩:=hp2.form;obtain ⟨hc2,hf2⟩:=bcell hb2;have HP2:=Lib.hid hp2;clear hp2)
 exact bodyPost_ret (v:=.tuple #[perV (.slice a1 q.head.length c1) (.slice a2 q.cycle.length c2) q.frm q.period,.int .i64 0]) (by simp [results,Tryz.results117,go_sem, *]) rfl ⟨_,_,rfl,(HP2.out.above (by (repeat' (with_reducible first|exact Above.refl _ _|refine Above.alloc ?_ _|refine Above.drew ?_|refine Above.drewN ?_ _|refine Above.setCell ?_ (by first|(simp;done)|(simp;omega)|omega) _)))).mono (by simp;omega),xE⟩
end Go.Proofs.YthjnojbeimchdaaGreat
/- Walks: every, canonical (package kalendslaw04). -/
namespace Go.Proofs.YthjnojbeimchdaaGreat
open Go.RowKit Go.Maps Kal
theorem Ints.lit {w:World} {b:Nat} {l:List Int} {t:TypeId} (h:Bxx w b (l.map (Value.int .i64)).toArray t) (hl:l.length≤17592186044416) (hr:∀ x∈l,InI x):Ints w (.slice (some ⟨b,0,none⟩) l.length l.length) l:=by
 refine ⟨⟨_,_,rfl,Nat.le_refl _,by omega,.inr ⟨b,0,rfl,fun i hi=>?_⟩⟩,hl,hr⟩
 rw [Nat.zero_add,(h.cells i).1]
 rw [List.getElem?_toArray,List.getElem?_map,List.getElem?_eq_getElem hi,List.getD_eq_getElem?_getD,List.getElem?_eq_getElem hi]
 rfl
structure SetAt (w:World) (b:Nat) (h c:Value) (p:Per):Prop where
 box:Bxx w b #[h,.int .i64 p.frm,.int .i64 p.period,c] 39
 is:PerIs w h c p
theorem SetAt.below {w w':World} {b:Nat} {h c:Value} {p:Per} (hs:SetAt w b h c p) (hb:Below w.heap.size w w'):SetAt w' b h c p:=⟨hs.box.below hb,hs.is.ext hb⟩
end Go.Proofs.YthjnojbeimchdaaGreat
/- Walks: First (package periodic). -/
namespace Go.Proofs.YthjnojbeimchdaaGreat
open Go.RowKit Go.Maps Kal
end Go.Proofs.YthjnojbeimchdaaGreat
/- Walks: sanity (package kalendslaw04). -/
namespace Go.Proofs.YthjnojbeimchdaaGreat
open Go.RowKit Go.Maps Kal
def SetV (W:World) (x:Value) (p:Per):Prop:=∃ h c,x=perV h c p.frm p.period∧PerIs W h c p
theorem SetV.below {W W':World} {x:Value} {p:Per} (h:SetV W x p) (hb:Below W.heap.size W W'):SetV W' x p:=by
 obtain ⟨h,c,e,s⟩:=h;exact ⟨h,c,e,s.ext hb⟩
def SetB (W:World) (b:Nat) (p:Per):Prop:=∃ h c,SetAt W b h c p
theorem SetB.below {W W':World} {b:Nat} {p:Per} (h:SetB W b p) (hb:Below W.heap.size W W'):SetB W' b p:=by
 obtain ⟨h,c,s⟩:=h;exact ⟨h,c,s.below hb⟩
def Sets (W:World) (L:List (Nat × Per)):Prop:=∀ x∈L,SetB W x.1 x.2
theorem Sets.below {W W':World} {L:List (Nat × Per)} (h:Sets W L) (hb:Below W.heap.size W W'):Sets W' L:=fun x hx=>(h x hx).below hb
theorem Sets.nil (W:World):Sets W []:=fun x hx=>nomatch hx
theorem Sets.cons {W:World} {L:List (Nat × Per)} {b:Nat} {p:Per} (h1:SetB W b p) (h:Sets W L):Sets W ((b,p) :: L):=fun x hx=>by
 rcases List.mem_cons.1 hx with rfl|hx
 ·exact h1
 ·exact h x hx
theorem Sets.at {W:World} {L:List (Nat × Per)} (h:Sets W L) (i:Nat) {b:Nat} {p:Per} (e:L[i]? = some (b,p)):SetB W b p:=h (b,p) (List.mem_of_getElem? e)
end Go.Proofs.YthjnojbeimchdaaGreat
/- Walks: Made (package kalendsref04). Under way. -/
namespace Go.Proofs.YthjnojbeimchdaaGreat
open Go.RowKit Go.Maps Kal
structure Bytes (w:World) (v:Value) (l:List Int):Prop where
 is:∃ a c,v=.slice a l.length c∧(l=[]∨∃ b o,a=some ⟨b,o,none⟩∧∀ i,i<l.length→w.cell? ⟨b,o+i,none⟩=some (.int .u8 (l.getD i 0)))
 len:l.length≤9223372036854775807
 rng:∀ x∈l,0≤x∧x≤255
theorem Bytes.ext {w W:World} {v:Value} {l:List Int} (h:Bytes w v l) (hb:Below w.heap.size w W):Bytes W v l:=by
 obtain ⟨⟨a,c,rfl,h3⟩,h4,h5⟩:=h
 refine ⟨⟨a,c,rfl,h3.imp id ?_⟩,h4,h5⟩
 rintro ⟨b,o,rfl,hc⟩
 exact ⟨b,o,rfl,fun i hi=>Ext.cell hb (hc i hi)⟩
end Go.Proofs.YthjnojbeimchdaaGreat
/- Plain mathematics of the law PeriodicResidues: found in a window day by day; listed at a place. -/
namespace Go.Proofs.YthjnojbeimchdaaGreat
open Kal
end Go.Proofs.YthjnojbeimchdaaGreat
/- Small sets: what the sets that R.Made builds and their combinations keep (bounds of From and Period); the operations' contracts over them. -/
namespace Go.Proofs.YthjnojbeimchdaaGreat
open Go.RowKit Go.Maps Kal
structure Sm (F B:Int) (p:Per):Prop where
 wf:p.WF
 frm:p.frm≤F
 per:p.period≤B
theorem Sm.mono {F B F' B':Int} {p:Per} (h:Sm F B p) (h1:F≤F') (h2:B≤B'):Sm F' B' p:=⟨h.wf,by have:=h.frm;omega,by have:=h.per;omega⟩
theorem Sm.valid {F B:Int} {p:Per} (h:Sm F B p) (hb:F+B≤1048576):Valid p:=by
 have h0:=h.wf.frm
 have h1:=h.wf.per
 have h2:=h.frm
 have h5:=h.per
 have h3:=h.wf.head.length_le h0
 have h4:=h.wf.cyc.length_le (show (0:Int)≤p.period by omega)
 exact ⟨h.wf,by omega,by omega,by omega⟩
theorem exists_per {S:Int→Prop} {f d:Int} (hf:0≤f) (hd:1≤d) (hS0:∀ n,S n→0≤n) (hp:PFrom S f d):∃ p:Per,p.WF∧p.frm=f∧p.period=d∧∀ n,p.mem n↔S n:=by
 have h:=per_of_list (S:=S) (f:=f) (d:=d) (hl:=sel S 0 f) (cl:=sel (fun n=>S (f+n)) 0 d) hf hd hS0 hp (sel_rise (Int.le_refl _)) (sel_rise (Int.le_refl _))
  (fun n h1 h2=>by rw [sel_mem (Int.le_refl _)];exact ⟨fun h=>h.2.2,fun h=>⟨h1,h2,h⟩⟩) (fun n h1 h2=>by rw [sel_mem (Int.le_refl _)];exact ⟨fun h=>h.2.2,fun h=>⟨h1,h2,h⟩⟩)
 exact ⟨_,h.1,rfl,rfl,h.2⟩
theorem canon_sm {S:Int→Prop} {f d:Int} (hf:0≤f) (hd:1≤d) (hS0:∀ n,S n→0≤n) (hp:PFrom S f d):∃ q,IsCanon q S∧Sm f d q:=by
 obtain ⟨p,hw,h1,h2,hm⟩:=exists_per hf hd hS0 hp
 obtain ⟨q,hq⟩:=exists_canon hw
 have hq':IsCanon q S:=hq.congr hm
 exact ⟨q,hq',hq'.wf,hq'.frm_le hf hd hp,hq'.minp d hd hp.ev⟩
theorem Sm.canon {F B:Int} {p:Per} (h:Sm F B p):∃ q,IsCanon q p.mem∧Sm F B q:=by
 obtain ⟨q,hq,hs⟩:=canon_sm (S:=p.mem) h.wf.frm h.wf.per (fun n hn=>hn.1) h.wf.pfrom
 exact ⟨q,hq,hs.mono h.frm h.per⟩
theorem Sets.tl {W:World} {L:List (Nat × Per)} {x:Nat × Per} (h:Sets W (x :: L)):Sets W L:=fun y hy=>h y (List.mem_cons_of_mem _ hy)
end Go.Proofs.YthjnojbeimchdaaGreat
namespace Kal
theorem Fac.of {p:Per} (h:p.WF) (hf:p.frm≤9) (hd:p.period∣27720):Fac 0 p:=⟨h,fun n hn=>hn.1,by omega,hd⟩
theorem ev_fac {m n:Int} (h0:0≤m) (h1:m<n) (hd:n∣27720):CFac 0 (ev m n):=⟨Fac.of (ev_wf h0 h1) (by show (0:Int)≤9;omega) hd,ev_canon h0 h1⟩
theorem cfac_dec {p:Per} (h:canonB p=true) (hf:p.frm≤9) (hd:p.period∣27720):CFac 0 p:=⟨Fac.of (canon_dec h).wf hf hd,canon_dec h⟩
theorem map_canon {s:Int} {t:List Per} (h:∀ p∈t,CFac s p):t.map (fun p=>canonC p.mem)=t:=by
 rw [List.map_congr_left (g:=id) fun p hp=>(h p hp).canonC,List.map_id]
theorem merged_self {s:Int} {t:List Per} (h:∀ p∈t,CFac s p) (hn:NoPair (divAt t) t.length):MergedTo t t:=by
 unfold MergedTo
 rw [map_canon h]
 exact .done hn
theorem noPair_one {P:Nat→Nat→Prop}:NoPair P 1:=fun i j h1 h2=>by omega
theorem noPair_zero {P:Nat→Nat→Prop}:NoPair P 0:=fun i j h1 h2=>by omega
theorem noPair_two {P:Nat→Nat→Prop} (h:¬ P 0 1):NoPair P 2:=fun i j h1 h2=>by
 obtain rfl:i=0:=by omega
 obtain rfl:j=1:=by omega
 exact h
theorem dd_one {t:List Per}:ddL [] [t]=[t]:=by
 show dd1 [] t=[t]
 rw [dd1_not (by simp)];rfl
theorem dd_two {t u:List Per} (h:u≠t):ddL [] [t,u]=[t,u]:=by
 show dd1 (dd1 [] t) u=_
 rw [dd1_not (out:=[]) (by simp)]
 rw [dd1_not (by simpa using h)];rfl
theorem norm_one {s:Int} {t:List Per} (h:∀ p∈t,CFac s p) (hn:NoPair (divAt t) t.length) (hb:¬ barrenT t):NormTo [t] [t]:=
 ⟨[t],[t],.keep (merged_self h hn) hb .nil,.done noPair_one,dd_one.symm⟩
theorem norm_none {s:Int} {t:List Per} (h:∀ p∈t,CFac s p) (hn:NoPair (divAt t) t.length) (hb:barrenT t):NormTo [t] []:=
 ⟨[],[],.skip (merged_self h hn) hb .nil,.done noPair_zero,rfl⟩
theorem norm_factor {p c:Per} (h:IsCanon c p.mem) (hb:∃ n,p.mem n):NormTo [[p]] [[c]]:=by
 refine ⟨[[c]],[[c]],.keep (u:=[c]) ?_ ?_ .nil,.done noPair_one,dd_one.symm⟩
 ·unfold MergedTo
  rw [show [p].map (fun p=>canonC p.mem)=[c] from by rw [List.map_singleton,canonC_eq h]]
  exact .done noPair_one
 ·obtain ⟨n,hn⟩:=hb
  exact fun g=>g n (tmem_one.2 ((h.mem n).2 hn))
theorem norm_factor_none {p c:Per} (h:IsCanon c p.mem) (hb:∀ n,¬ p.mem n):NormTo [[p]] []:=by
 refine ⟨[],[],.skip (u:=[c]) ?_ ?_ .nil,.done noPair_zero,rfl⟩
 ·unfold MergedTo
  rw [show [p].map (fun p=>canonC p.mem)=[c] from by rw [List.map_singleton,canonC_eq h]]
  exact .done noPair_one
 ·exact fun n hn=>hb n ((h.mem n).1 (tmem_one.1 hn))
theorem norm_two {s:Int} {p q:Per} (hp:CFac s p) (hq:CFac s q) (hd:divB p q=false) (hne:p≠q) (h1:∃ n,p.mem n) (h2:∃ n,q.mem n):NormTo [[p],[q]] [[p],[q]]:=by
 have one:∀ {r:Per},CFac s r→MergedTo [r] [r]:=fun {r} hr=>merged_self (fun x hx=>by simp at hx;subst hx;exact hr) noPair_one
 have nb:∀ {r:Per},(∃ n,r.mem n)→¬ barrenT [r]:=fun {r} ⟨n,hn⟩ g=>g n (tmem_one.2 hn)
 refine ⟨[[p],[q]],[[p],[q]],.keep (one hp) (nb h1) (.keep (one hq) (nb h2) .nil),.done (noPair_two ?_),(dd_two ?_).symm⟩
 ·rintro ⟨_,_,h⟩
  simp at h
  rw [hd] at h;cases h
 ·intro e;injection e with e _;exact hne e.symm
theorem norm_join {s:Int} {p q c:Per} (hp:CFac s p) (hq:CFac s q) (hd:divB p q=true) (hc:IsCanon c (fun n=>p.mem n∨q.mem n)) (h1:∃ n,p.mem n) (h2:∃ n,q.mem n):NormTo [[p],[q]] [[c]]:=by
 have one:∀ {r:Per},CFac s r→MergedTo [r] [r]:=fun {r} hr=>merged_self (fun x hx=>by simp at hx;subst hx;exact hr) noPair_one
 have nb:∀ {r:Per},(∃ n,r.mem n)→¬ barrenT [r]:=fun {r} ⟨n,hn⟩ g=>g n (tmem_one.2 hn)
 refine ⟨[[p],[q]],[[c]],.keep (one hp) (nb h1) (.keep (one hq) (nb h2) .nil),.step (i:=0) (j:=1) ⟨by omega,by simp,⟨rfl,rfl,by simpa using hd⟩,fun i' j' h=>by omega,fun j' h h'=>by omega⟩ ?_,dd_one.symm⟩
 have e:joinAt [[p],[q]] 0 1=[[c]]:=by
  show ([[p],[q]].set 0 [orP p q]).eraseIdx 1=[[c]]
  unfold orP
  rw [canonC_eq hc];rfl
 rw [e]
 exact .done noPair_one
theorem x1:CFac 0 (ev 1 4):=ev_fac (by omega) (by omega) ⟨6930,by decide⟩
theorem x2:CFac 0 (ev 3 6):=ev_fac (by omega) (by omega) ⟨4620,by decide⟩
theorem x3:CFac 0 (ev 2 6):=ev_fac (by omega) (by omega) ⟨4620,by decide⟩
theorem x4:CFac 0 (ev 0 2):=ev_fac (by omega) (by omega) ⟨13860,by decide⟩
theorem x5:CFac 0 (ev 0 6):=ev_fac (by omega) (by omega) ⟨4620,by decide⟩
theorem both_mem (n:Int):tmem [ev 1 4,ev 3 6] n↔0≤n∧n % 12=9:=by
 unfold tmem
 simp only [List.forall_mem_cons,List.not_mem_nil,ev_mem]
 constructor
 ·rintro ⟨h1,h2,_⟩;omega
 ·intro h;exact ⟨by omega,by omega,fun x hx=>absurd hx (by simp)⟩
theorem two_facs {p q:Per} (hp:CFac 0 p) (hq:CFac 0 q):∀ r∈[p,q],CFac 0 r:=fun r hr=>by
 simp at hr
 rcases hr with rfl|rfl
 ·exact hp
 ·exact hq
theorem san_both:NormTo (pairsL [[ev 1 4]] [[ev 3 6]]) [[ev 1 4,ev 3 6]]:=
 norm_one (two_facs x1 x2) (noPair_two (by unfold divAt;decide)) fun h=>h 9 ((both_mem 9).2 (by omega))
theorem san_none:NormTo (pairsL [[ev 1 4]] [[ev 2 6]]) []:=
 norm_none (two_facs x1 x3) (noPair_two (by unfold divAt;decide)) fun n h=>by
  unfold tmem at h
  have h:∀ p∈[ev 1 4,ev 2 6],p.mem n:=h
  simp only [List.forall_mem_cons,List.not_mem_nil,ev_mem] at h
  obtain ⟨h1,h2,_⟩:=h
  omega
theorem san_one:NormTo [[ev 0 2],[ev 1 4]] [[⟨[],0,4,[0,1,2]⟩]]:=
 norm_join x4 x1 (by decide) ((canon_dec (by decide)).congr fun n=>by
  rw [ev_mem,ev_mem]
  show (0≤n∧if n<0 then n∈[] else (n-0) % 4∈[0,1,2])↔_
  by_cases h:n<0
  ·rw [if_pos h];simp;omega
  ·rw [if_neg h];simp;omega) ⟨0,by rw [ev_mem];omega⟩ ⟨1,by rw [ev_mem];omega⟩
theorem san_two:NormTo [[ev 1 4],[ev 3 6]] [[ev 1 4],[ev 3 6]]:=
 norm_two x1 x2 (by decide) (fun e=>by have:=congrArg Per.period e;simp [ev] at this) ⟨1,by rw [ev_mem];omega⟩ ⟨3,by rw [ev_mem];omega⟩
theorem six_canon:IsCanon ⟨[],0,6,[2,4]⟩ (fun n=>(ev 0 2).mem n∧¬ (ev 0 6).mem n):=(canon_dec (by decide)).congr fun n=>by
 rw [ev_mem,ev_mem]
 show (0≤n∧if n<0 then n∈[] else (n-0) % 6∈[2,4])↔_
 by_cases h:n<0
 ·rw [if_pos h];simp;omega
 ·rw [if_neg h];simp;omega
theorem norm_c {p:Per} (h:CFac 0 p) (hb:∃ n,p.mem n):NormTo [[p]] [[p]]:=norm_factor h.can hb
theorem ok_one {t:List Per} (h:t.length≤4):NormOk [t]:=⟨by simp,fun u hu=>by simp at hu;subst hu;exact h⟩
theorem ok_nil:NormOk []:=⟨by simp,by simp⟩
theorem san_less:MinusTo [[ev 0 2]] [[ev 0 6]] (some [[⟨[],0,6,[2,4]⟩]]):=by
 refine ⟨_,norm_c x4 ⟨0,by rw [ev_mem];omega⟩,.inl ⟨ok_one (by simp),.step (m':=[[⟨[],0,6,[2,4]⟩]]) ?_ (ok_one (by simp)) .nil⟩⟩
 have e:minL [[ev 0 2]] [ev 0 6]=[[(⟨[],0,6,[2,4]⟩:Per)]]:=by
  show [[minusP (ev 0 2) (ev 0 6)]]=_
  unfold minusP
  rw [canonC_eq six_canon]
 rw [e]
 exact norm_c (cfac_dec (by decide) (by decide) ⟨4620,by decide⟩) ⟨2,by decide⟩
def tri:Per:=⟨[0,2,4],5,1,[]⟩
theorem tri_cf:CFac 0 tri:=cfac_dec (by decide) (by decide) ⟨27720,by decide⟩
theorem tri_mem (n:Int):tri.mem n↔n=0∨n=2∨n=4:=by
 show (0≤n∧if n<5 then n∈[0,2,4] else (n-5) % 1∈[])↔_
 by_cases h:n<5
 ·rw [if_pos h];simp;omega
 ·rw [if_neg h];simp;omega
theorem rest_canon:IsCanon ⟨[],5,2,[1]⟩ (fun n=>(ev 0 2).mem n∧¬ tri.mem n):=(canon_dec (by decide)).congr fun n=>by
 rw [ev_mem,tri_mem]
 show (0≤n∧if n<5 then n∈[] else (n-5) % 2∈[1])↔_
 by_cases h:n<5
 ·rw [if_pos h];simp;omega
 ·rw [if_neg h];simp;omega
theorem empty_canon:IsCanon ⟨[],0,1,[]⟩ (fun n=>tri.mem n∧¬ (ev 0 2).mem n):=(canon_dec (by decide)).congr fun n=>by
 rw [ev_mem,tri_mem]
 show (0≤n∧if n<0 then n∈[] else (n-0) % 1∈[])↔_
 by_cases h:n<0
 ·rw [if_pos h];simp;omega
 ·rw [if_neg h];simp;omega
theorem san_m1:MinusTo [[ev 0 2]] [[tri]] (some [[⟨[],5,2,[1]⟩]]):=by
 refine ⟨_,norm_c x4 ⟨0,by rw [ev_mem];omega⟩,.inl ⟨ok_one (by simp),.step (m':=[[⟨[],5,2,[1]⟩]]) ?_ (ok_one (by simp)) .nil⟩⟩
 have e:minL [[ev 0 2]] [tri]=[[(⟨[],5,2,[1]⟩:Per)]]:=by
  show [[minusP (ev 0 2) tri]]=_
  unfold minusP
  rw [canonC_eq rest_canon]
 rw [e]
 exact norm_c (cfac_dec (by decide) (by decide) ⟨13860,by decide⟩) ⟨6,by decide⟩
theorem san_m2:MinusTo [[tri]] [[ev 0 2]] (some []):=by
 refine ⟨_,norm_c tri_cf ⟨0,by decide⟩,.inl ⟨ok_one (by simp),.step (m':=[]) ?_ ok_nil .nil⟩⟩
 have e:minL [[tri]] [ev 0 2]=[[(⟨[],0,1,[]⟩:Per)]]:=by
  show [[minusP tri (ev 0 2)]]=_
  unfold minusP
  rw [canonC_eq empty_canon]
 rw [e]
 exact norm_factor_none (canon_dec (by decide):IsCanon (⟨[],0,1,[]⟩:Per) _) (fun n hn=>by
  have:=(empty_canon.mem n).1 hn
  rw [ev_mem,tri_mem] at this;omega)
theorem apart_mem (n:Int):mmem ([[(⟨[],5,2,[1]⟩:Per)]] ++ []) n↔6≤n∧n % 2=0:=by
 rw [List.append_nil,mmem_cons,tmem_one,rest_canon.mem n,ev_mem,tri_mem]
 constructor
 ·rintro (h|h)
  ·omega
  ·exact absurd h mmem_nil
 ·intro h;left;omega
end Kal
namespace Go.Proofs.YthjnojbeimchdaaGreat
open Go.RowKit Go.Maps Kal
structure FV (s:Int) (p:Per):Prop where
 fac:Fac s p
 far:p.frm≤1099511627776
theorem FV.valid {s:Int} {p:Per} (h:FV s p):Valid p:=by
 have hw:=h.fac.wf
 have hf:=h.fac.frm
 have h0:=hw.frm
 have hp:=hw.per
 have hper:=h.fac.per
 have h3:=hw.cyc.length_le (show (0:Int)≤p.period by omega)
 have h4:(p.head.length:Int)≤9:=by
  by_cases hs:s≤p.frm
  ·by_cases h0s:0≤s
   ·have hr:Rise s p.frm p.head:=⟨hw.head.1,fun x hx=>⟨h.fac.low x ((hw.head_mem x).1 hx).2.2,(hw.head.2 x hx).2⟩⟩
    have:=hr.length_le hs;omega
   ·have:=hw.head.length_le h0;omega
  ·have:p.head=[]:=List.eq_nil_iff_forall_not_mem.2 fun x hx=>by
    have h1:=h.fac.low x ((hw.head_mem x).1 hx).2.2
    have h2:=(hw.head.2 x hx).2
    omega
   rw [this];simp
 exact ⟨hw,h.far,by omega,by omega⟩
theorem FV.validB {s:Int} {p:Per} (h:FV s p):validB p=true:=(validB_iff p).2 h.valid
theorem FV.canon {s:Int} {p:Per} (h:FV s p):IsCanon (canonC p.mem) p.mem∧FV s (canonC p.mem):=
 ⟨h.fac.canon.1,h.fac.canon.2,Int.le_trans (h.fac.canon.1.frm_le h.fac.wf.frm h.fac.wf.per h.fac.wf.pfrom) h.far⟩
theorem cnt_low {S:Int→Prop} {s:Int} (hs:∀ x,S x→s≤x) (n:Nat):cnt S n≤max (n-s) 0:=by
 induction n with
 | zero=>simp [cnt];omega
 | succ n ih=>
  simp only [cnt]
  split
  ·rename_i h;have:=hs _ h;omega
  ·omega
theorem FV.op {s:Int} {p q:Per} (hp:FV s p) (hq:FV s q) {U:Int→Prop} (g:Prop→Prop→Prop) (hU:∀ n,U n↔g (p.mem n) (q.mem n)) (hlow:∀ n,U n→s≤n) (h0:∀ n,U n→0≤n) :
  IsCanon (canonC U) U∧FV s (canonC U)∧lcmI (canonC p.mem).period (canonC q.mem).period≤27720∧cnt U (max (canonC p.mem).frm (canonC q.mem).frm+lcmI (canonC p.mem).period (canonC q.mem).period).toNat≤1048576:=by
 obtain ⟨ca,fa⟩:=hp.canon
 obtain ⟨cb,fb⟩:=hq.canon
 have hop:=fa.fac.op fb.fac g (U:=U) (fun n=>by rw [hU,ca.mem,cb.mem]) hlow h0
 have hl:=Int.le_of_dvd (by decide) hop.2.2.2
 have hpos:=lcmI_pos fa.fac.wf.per fb.fac.wf.per
 refine ⟨hop.1,⟨hop.2.1,?_⟩,hl,?_⟩
 ·exact Int.le_trans (hop.1.frm_le (by have:=fa.fac.wf.frm;omega) hpos hop.2.2.1) (by have:=fa.far;have:=fb.far;omega)
 ·have h1:=cnt_low hlow (max (canonC p.mem).frm (canonC q.mem).frm+lcmI (canonC p.mem).period (canonC q.mem).period).toNat
  have a1:=fa.fac.frm
  have b1:=fb.fac.frm
  have a0:=fa.fac.wf.frm
  omega
theorem FV.and {s:Int} {p q:Per} (hp:FV s p) (hq:FV s q):FV s (andP p q):=(hp.op hq And (fun n=>Iff.rfl) (fun n h=>hp.fac.low n h.1) (fun n h=>h.1.1)).2.1
theorem FV.or {s:Int} {p q:Per} (hp:FV s p) (hq:FV s q):FV s (orP p q):=(hp.op hq Or (fun n=>Iff.rfl) (fun n h=>h.elim (hp.fac.low n) (hq.fac.low n)) (fun n h=>h.elim (fun h=>h.1) (fun h=>h.1))).2.1
theorem FV.minus {s:Int} {p q:Per} (hp:FV s p) (hq:FV s q):FV s (minusP p q):=(hp.op hq (fun a b=>a∧¬ b) (fun n=>Iff.rfl) (fun n h=>hp.fac.low n h.1) (fun n h=>h.1.1)).2.1
theorem Canon_fv (s:Int) (h c:Value) (p:Per) (w:World) (hp:PerIs w h c p) (hv:FV s p):Calls Tryz.prog 97 #[perV h c p.frm p.period] w (PerOk (canonC p.mem) w):=
 Canon_ok h c p _ w hp hv.valid hv.canon.1
theorem And_fv (s:Int) (h1 c1 h2 c2:Value) (p1 p2:Per) (w:World) (hp1:PerIs w h1 c1 p1) (hp2:PerIs w h2 c2 p2) (v1:FV s p1) (v2:FV s p2) :
  Calls Tryz.prog 72 #[perV h1 c1 p1.frm p1.period,perV h2 c2 p2.frm p2.period] w (PerOk (andP p1 p2) w):=by
 have h:=v1.op v2 And (fun n=>Iff.rfl) (fun n h=>v1.fac.low n h.1) (fun n h=>h.1.1)
 have a:=v1.canon.2.fac.per
 have b:=v2.canon.2.fac.per
 exact And_ok h1 c1 h2 c2 p1 p2 _ _ _ w hp1 hp2 v1.valid v2.valid v1.canon.1 v2.canon.1 (by omega) (by omega) (by omega) h.1 h.2.2.2
theorem Or_fv (s:Int) (h1 c1 h2 c2:Value) (p1 p2:Per) (w:World) (hp1:PerIs w h1 c1 p1) (hp2:PerIs w h2 c2 p2) (v1:FV s p1) (v2:FV s p2) :
  Calls Tryz.prog 73 #[perV h1 c1 p1.frm p1.period,perV h2 c2 p2.frm p2.period] w (PerOk (orP p1 p2) w):=by
 have h:=v1.op v2 Or (fun n=>Iff.rfl) (fun n h=>h.elim (v1.fac.low n) (v2.fac.low n)) (fun n h=>h.elim (fun h=>h.1) (fun h=>h.1))
 have a:=v1.canon.2.fac.per
 have b:=v2.canon.2.fac.per
 exact Or_ok h1 c1 h2 c2 p1 p2 _ _ _ w hp1 hp2 v1.valid v2.valid v1.canon.1 v2.canon.1 (by omega) h.1 h.2.2.2
theorem Minus_fv (s:Int) (h1 c1 h2 c2:Value) (p1 p2:Per) (w:World) (hp1:PerIs w h1 c1 p1) (hp2:PerIs w h2 c2 p2) (v1:FV s p1) (v2:FV s p2) :
  Calls Tryz.prog 117 #[perV h1 c1 p1.frm p1.period,perV h2 c2 p2.frm p2.period] w (PerOk (minusP p1 p2) w):=by
 have h:=v1.op v2 (fun a b=>a∧¬ b) (fun n=>Iff.rfl) (fun n h=>v1.fac.low n h.1) (fun n h=>h.1.1)
 have a:=v1.canon.2.fac.per
 have b:=v2.canon.2.fac.per
 exact Minus_ok h1 c1 h2 c2 p1 p2 _ _ _ w hp1 hp2 v1.valid v2.valid v1.canon.1 v2.canon.1 (by omega) h.1 h.2.2.2
theorem POx.pv {w:World} {base:Nat} {h c:Value} {s:Int} {p:Per} (hp:POx w base h c p) (hv:FV s p):PVok w (fun b=>base≤b∧b<w.heap.size) ⟨h,c,p⟩:=by
 have h1:=hv.valid
 have h2:=h1.wf.frm
 have h3:p.frm≤1099511627776:=h1.frm
 have h4:=h1.wf.per
 have h5:p.period≤1099511627776:=h1.per
 exact ⟨hp.is,⟨by show _≤p.frm;omega,by show p.frm≤_;omega⟩,⟨by show _≤p.period;omega,by show p.period≤_;omega⟩,fun _ k hk=>hp.hd.lt k hk,fun _ k hk=>hp.cy.lt k hk⟩
theorem PV.enc_one (x:PV) (hh:x.h.oneCell'=true) (hc:x.c.oneCell'=true):∀ u∈x.enc,u.oneCell'=true:=by
 intro u hu
 simp only [PV.enc,List.mem_cons,List.not_mem_nil,or_false] at hu
 rcases hu with rfl|rfl|rfl|rfl
 ·exact hh
 ·rfl
 ·rfl
 ·exact hc
theorem PVok.one {w:World} {F:Nat→Prop} {x:PV} (h:PVok w F x):∀ u∈x.enc,u.oneCell'=true:=by
 obtain ⟨xh,xc,xp⟩:=x
 obtain ⟨_,_,_,_,_,_,rfl,rfl⟩:=h.form
 exact PV.enc_one _ rfl rfl
theorem flat_take {L:List PV}:∀ {j:Nat},(L.flatMap PV.enc).take (j*4)=(L.take j).flatMap PV.enc:=by
 induction L with
 | nil=>intro j;simp
 | cons x L ih=>
  intro j
  cases j with
  | zero=>simp
  | succ j=>rw [List.take_succ_cons,List.flatMap_cons,List.flatMap_cons,List.take_append,List.take_of_length_le (by rw [PV.enc_len];omega),PV.enc_len,show (j+1)*4-4=j*4 by omega,ih]
theorem flat_drop {L:List PV}:∀ {j:Nat},(L.flatMap PV.enc).drop (j*4)=(L.drop j).flatMap PV.enc:=by
 induction L with
 | nil=>intro j;simp
 | cons x L ih=>
  intro j
  cases j with
  | zero=>simp
  | succ j=>rw [List.drop_succ_cons,List.flatMap_cons,List.drop_append,List.drop_of_length_le (by rw [PV.enc_len];omega),PV.enc_len,show (j+1)*4-4=j*4 by omega,ih,List.nil_append]
theorem flat_len {L:List PV}:(L.flatMap PV.enc).length=L.length*4:=by
 induction L with
 | nil=>rfl
 | cons x L ih=>rw [List.flatMap_cons,List.length_append,ih,PV.enc_len,List.length_cons];omega
theorem flat_erase {L:List PV} {j:Nat}:(L.flatMap PV.enc).take (j*4) ++ (L.flatMap PV.enc).drop ((j+1)*4)=(L.eraseIdx j).flatMap PV.enc:=by
 rw [flat_take,flat_drop,← List.flatMap_append,List.eraseIdx_eq_take_drop_succ]
theorem flat_set {L:List PV} {x:PV}:∀ {j:Nat},j<L.length→((((L.flatMap PV.enc).set (j*4) x.h).set (j*4+1) (.int .i64 x.p.frm)).set (j*4+2) (.int .i64 x.p.period)).set (j*4+3) x.c=(L.set j x).flatMap PV.enc:=by
 induction L with
 | nil=>intro j h;simp at h
 | cons y L ih=>
  intro j h
  cases j with
  | zero=>simp [PV.enc]
  | succ j=>
   have e:∀ (l:List Value) (i:Nat) (v:Value),(y.enc ++ l).set (i+4) v=y.enc ++ l.set i v:=fun l i v=>by rw [List.set_append_right _ _ (by rw [PV.enc_len];omega),PV.enc_len,Nat.add_sub_cancel]
   rw [List.flatMap_cons,List.set_cons_succ,List.flatMap_cons,← ih (by simpa using h),show (j+1)*4=j*4+4 by omega,e,show j*4+4+1=j*4+1+4 by omega,e,show j*4+4+2=j*4+2+4 by omega,e,show j*4+4+3=j*4+3+4 by omega,e]
structure Row4 (B g cap:Nat) (W:World) (L:List PV):Prop where
 row:W.ownsRow B 39 4 (.slice (some ⟨g,0,none⟩) L.length cap) L.length (L.flatMap PV.enc)
 all:∀ x∈L,PVok W (fun b=>B≤b∧b≠g) x
 len:L.length≤cap
 cap:cap≤17592186044416
theorem Row4.le {B g cap:Nat} {W:World} {L:List PV} (h:Row4 B g cap W L):B≤g∧g<W.heap.size:=h.row.lt g rfl
theorem Row4.below {B g cap:Nat} {W W':World} {L:List PV} (h:Row4 B g cap W L) (hb:Below W.heap.size W W'):Row4 B g cap W' L:=
 ⟨h.row.kept (row:=none) (World.grownBy.of_below hb _) (by right;simp [Value.ownBlock]),fun x hx=>(h.all x hx).keep (KeepF.below hb),h.len,h.cap⟩
theorem Row4.set {B g cap:Nat} {W:World} {L:List PV} (h:Row4 B g cap W L) {j:Nat} (hj:j<L.length) {x:PV} (hx:PVok W (fun b=>B≤b∧b≠g) x) :
  Row4 B g cap ((((W.setCell ⟨g,j*4,none⟩ x.h).setCell ⟨g,j*4+1,none⟩ (.int .i64 x.p.frm)).setCell ⟨g,j*4+2,none⟩ (.int .i64 x.p.period)).setCell ⟨g,j*4+3,none⟩ x.c) (L.set j x):=by
 have hg:W.grownBy ((((W.setCell ⟨g,j*4,none⟩ x.h).setCell ⟨g,j*4+1,none⟩ (.int .i64 x.p.frm)).setCell ⟨g,j*4+2,none⟩ (.int .i64 x.p.period)).setCell ⟨g,j*4+3,none⟩ x.c) (some g):=
  World.grownBy.set' (World.grownBy.set' (World.grownBy.set' (World.grownBy.set' ⟨rfl,rfl,rfl,Nat.le_refl _,fun _ _ _=>rfl⟩ _) _) _) _
 refine ⟨?_,fun y hy=>?_,by rw [List.length_set];exact h.len,h.cap⟩
 ·rw [List.length_set,← flat_set hj]
  exact ((((h.row.stored _ _).1.stored _ _).1.stored _ _).1.stored _ _).1
 ·refine PVok.keep ?_ (KeepF.grown hg fun h=>h.2 rfl)
  rcases List.mem_or_eq_of_mem_set hy with hy|rfl
  ·exact h.all y hy
  ·exact hx
theorem Row4.erase {B g cap:Nat} {W W':World} {L:List PV} (h:Row4 B g cap W L) {j:Nat} (hj:j<L.length) (hr:W'.ownsRow B 39 4 (.slice (some ⟨g,0,none⟩) (L.length-1) cap) (L.length-1) ((L.flatMap PV.enc).take (j*4) ++ (L.flatMap PV.enc).drop ((j+1)*4))) (hg:W.grownBy W' (some g)):Row4 B g cap W' (L.eraseIdx j):=by
 have hl:(L.eraseIdx j).length=L.length-1:=by rw [List.length_eraseIdx_of_lt hj]
 refine ⟨by rw [hl,← flat_erase];exact hr,fun x hx=>(h.all x (List.mem_of_mem_eraseIdx hx)).keep (KeepF.grown hg fun h=>h.2 rfl),by rw [hl];have:=h.len;omega,h.cap⟩
theorem Row4.get {B g cap:Nat} {W:World} {L:List PV} (h:Row4 B g cap W L) {k:Nat} (hk:k<L.length) :
  PVok W (fun b=>B≤b∧b≠g) (L.getD k default)∧W.cell? ⟨g,k*4,none⟩=some (L.getD k default).h∧W.cell? ⟨g,k*4+1,none⟩=some (.int .i64 (L.getD k default).p.frm)∧
   W.cell? ⟨g,k*4+2,none⟩=some (.int .i64 (L.getD k default).p.period)∧W.cell? ⟨g,k*4+3,none⟩=some (L.getD k default).c∧∀ i,W.frozen? ⟨g,i,none⟩=false:=by
 have c:=fun i (hi:i<4)=>h.row.cellAt (k*4+i) (by omega)
 refine ⟨h.all _ (getD_mem' hk),(c 0 (by omega)).trans (flat_get hk rfl),(c 1 (by omega)).trans (flat_get hk rfl),(c 2 (by omega)).trans (flat_get hk rfl),(c 3 (by omega)).trans (flat_get hk rfl),fun i=>h.row.frozenAt i⟩
theorem Row4.term {B g cap:Nat} {W:World} {L:List PV} (h:Row4 B g cap W L):TermL W (fun b=>B≤b) (.slice (some ⟨g,0,none⟩) L.length cap) L:=by
 refine ⟨⟨_,_,rfl,h.len,Nat.le_trans h.cap (by omega),.inr ⟨g,0,rfl,h.le.1,h.le.2,fun i u hi=>?_⟩⟩,Nat.le_trans h.len h.cap,fun x hx=>(h.all x hx).mono fun b hb=>hb.1⟩
 rw [Nat.zero_add]
 have:=(List.getElem?_eq_some_iff.1 hi).1
 rw [flat_len] at this
 exact (h.row.cellAt i this).trans hi
theorem Row4.one {B g cap:Nat} {W:World} {L:List PV} (h:Row4 B g cap W L):∀ u∈L.flatMap PV.enc,u.oneCell'=true:=fun u hu=>by
 obtain ⟨x,hx,hu⟩:=List.mem_flatMap.1 hu
 exact (h.all x hx).one u hu
theorem default_ok (W:World) (F:Nat→Prop):PVok W F default:=
 ⟨⟨Ints.nil W,Ints.nil W⟩,by constructor <;> decide,by constructor <;> decide,fun h=>absurd rfl h,fun h=>absurd rfl h⟩
end Go.Proofs.YthjnojbeimchdaaGreat
namespace Go.Proofs.YthjnojbeimchdaaGreat
open Go.RowKit Go.Maps Kal
theorem wp_scope_again {P:Program} {a:Act} {w:World} {Q:Exit→Act→World→Prop} {x y rest:Code} (l:Nat) (J:Act→World→Prop) (μ:Act→World→Nat) (hf:findLabel (x.seq (y.seq ((Code.label l).seq rest))) l=some (Code.skip.seq rest))
  (first:x.wp P (Exit.then (fun a w=>y.wp P (Exit.then J (Exit.jump l J Q)) a w) (Exit.jump l J Q)) a w)
  (pass:∀ a w,J a w→rest.wp P (Exit.jump l (fun a' w'=>J a' w'∧μ a' w'<μ a w) Q) a w):(Code.scope (x.seq (y.seq ((Code.label l).seq rest)))).wp P Q a w:=by
 refine wp_scope_jumps l J μ hf (wp_seq (wp_mono first fun e a w h=>?_)) fun a w h=>wp_seq (wp_skip (pass a w h))
 cases e <;> first|exact h|skip
 refine wp_seq (wp_mono h fun e a w h=>?_)
 cases e <;> first|exact h|skip
 refine wp_seq (wp_label ?_)
 refine wp_mono (pass a w h) fun e a w h=>?_
 cases e <;> first|exact h|exact ⟨h.1,h.2.1⟩
theorem madePer (n:Nat):(madeCells (Value.agg #[.slice none 0 0,.int .i64 0,.int .i64 0,.slice none 0 0]).cells (n*4)).toList=(List.replicate n (default:PV)).flatMap PV.enc:=by
 refine List.ext_getElem? fun i=>?_
 by_cases hi:i<n*4
 ·have h1:i=i / 4*4+i % 4:=by omega
  have h2:i % 4<4:=by omega
  have h3:(List.replicate n (default:PV)).getD (i / 4) default=default:=by
   rw [List.getD_eq_getElem?_getD,List.getElem?_replicate];split <;> rfl
  have h4:(default:PV).enc[i % 4]? = some ((default:PV).enc[i % 4]'h2):=List.getElem?_eq_getElem h2
  have h5:=flat_get (L:=List.replicate n (default:PV)) (j:=i / 4) (i:=i % 4) (u:=(default:PV).enc[i % 4]'h2) (by simp;omega) (by rw [h3];exact h4)
  rw [← h1] at h5
  rw [h5,Array.getElem?_toList]
  have h6:∀ r (hr:r<4),(Value.agg #[.slice none 0 0,.int .i64 0,.int .i64 0,.slice none 0 0]).cells[r]! = (default:PV).enc[r]'hr:=by
   intro r hr
   match r,hr with
   | 0,_=>rfl
   | 1,_=>rfl
   | 2,_=>rfl
   | 3,_=>rfl
  rw [← h6]
  unfold madeCells
  simp [hi,Value.cells]
 ·rw [List.getElem?_eq_none (by simp [madeCells];omega),List.getElem?_eq_none (by rw [flat_len];simp;omega)]
structure MInv (w:World) (s:Int) (L:List PV) (g cap:Nat) (M:List PV) (W:World):Prop where
 row:Row4 w.heap.size g cap W M
 bel:Below w.heap.size w W
 fv:∀ x∈M,FV s x.p
 tom:∀ u,MergeTo (M.map PV.p) u→MergedTo (L.map PV.p) u
def MJ (w:World) (s:Int) (L:List PV) (g cap:Nat) (v:Value) (a:Act) (W:World):Prop:=
 ∃ (M:List PV) (n:Nat) (u1 u4 u5 u6 u7 u8 u9 u10 u11 u12 u13 u14 u15 u16 u17 u18 u19 u20 u21 u22 u23 u24 u25 u26 u27 u28 u29 u30 u31 u32 u33 u34 u35 u36 u37 u38 u39 u40 u41 u42 u43 u44 u45 u46 u47 u48 u49 u50 u51 u52 u53 u54 u55 u56 u57 u58 u59 u60 u61 u62 u63 u64 u65 u66 u67 u68 u69 u70 u71 u72 u73 u74 u75 u76:Value),a=⟨#[v,u1,.slice none 0 0,.slice (some ⟨g,0,none⟩) n cap,u4,u5,u6,u7,u8,u9,u10,u11,u12,u13,u14,u15,u16,u17,u18,u19,u20,u21,u22,u23,u24,u25,u26,u27,u28,u29,u30,u31,u32,u33,u34,u35,u36,u37,u38,u39,u40,u41,u42,u43,u44,u45,u46,u47,u48,u49,u50,u51,u52,u53,u54,u55,u56,u57,u58,u59,u60,u61,u62,u63,u64,u65,u66,u67,u68,u69,u70,u71,u72,u73,u74,u75,u76],[]⟩∧n=M.length∧MInv w s L g cap M W
structure MgP (B:Nat) (q:Per) (nb:Nat) (h c:Value) (W:World):Prop where
 ok:PVok W (fun b=>B≤b∧b≠B) ⟨h,c,q⟩
 ne:nb≠B
 c0:W.cell? ⟨nb,0,none⟩=some h
 c1:W.cell? ⟨nb,1,none⟩=some (.int .i64 q.frm)
 c2:W.cell? ⟨nb,2,none⟩=some (.int .i64 q.period)
 c3:W.cell? ⟨nb,3,none⟩=some c
theorem MgP.of {B lo hi nb:Nat} {s:Int} {q:Per} {h c:Value} {W:World} (hp:PerIn W lo hi h c q) (hv:FV s q) (hB:B<lo) (hb:Bxx W nb #[.slice none 0 0,.int .i64 0,.int .i64 0,.slice none 0 0] 39) (hn:nb<lo∨hi≤nb) (hne:nb≠B) :
  MgP B q nb h c ((((W.setCell ⟨nb,0,none⟩ h).setCell ⟨nb,1,none⟩ (.int .i64 q.frm)).setCell ⟨nb,2,none⟩ (.int .i64 q.period)).setCell ⟨nb,3,none⟩ c):=by
 have h1:=(((hp.set (i:=0) h hn).set (i:=1) (.int .i64 q.frm) hn).set (i:=2) (.int .i64 q.period) hn).set (i:=3) c hn
 have h2:=set4all hb (x':=h) (y':=.int .i64 q.frm) (z':=.int .i64 q.period) (u':=c)
 have v1:=hv.valid
 have v2:=v1.wf.frm
 have v3:q.frm≤1099511627776:=v1.frm
 have v4:=v1.wf.per
 have v5:q.period≤1099511627776:=v1.per
 refine ⟨⟨h1.is,⟨by show _≤q.frm;omega,by show q.frm≤_;omega⟩,⟨by show _≤q.period;omega,by show q.period≤_;omega⟩,fun hh k hk=>?_,fun hh k hk=>?_⟩,hne,(Bxx.cells h2 0).1,(Bxx.cells h2 1).1,(Bxx.cells h2 2).1,(Bxx.cells h2 3).1⟩
 ·have:=h1.hd.blk hh k hk;omega
 ·have:=h1.cy.blk hh k hk;omega
theorem row_delete (B g cap jj:Nat) (M:List PV) (W:World) (h:Row4 B g cap W M) (hj:jj<M.length) :
  Calls Tryz.prog 145 #[.slice (some ⟨g,0,none⟩) M.length cap,.int .i64 jj,.int .i64 (jj+1)] W fun e w'=>e=.returned (.slice (some ⟨g,0,none⟩) (M.length-1) cap)∧Row4 B g cap w' (M.eraseIdx jj)∧W.grownBy w' (some g):=
 (deleteS_any B g M.length cap jj _ W h.row hj h.one).mono fun e w' ⟨h1,h2,h3⟩=>⟨h1,h.erase hj h2 h3,h3⟩
theorem map_merge {M:List PV} {ii jj:Nat} {x:PV} (hi:ii<M.length) (hj:jj<M.length) (hx:x.p=andP ((M.map PV.p).getD ii default) ((M.map PV.p).getD jj default)):((M.set ii x).eraseIdx jj).map PV.p=mergeAt (M.map PV.p) ii jj:=by
 unfold mergeAt
 rw [← hx,← List.map_set];simp [List.eraseIdx_eq_take_drop_succ]
theorem below_set4 {B g i:Nat} (W:World) (h:B≤g) (v0 v1 v2 v3:Value):Below B W ((((W.setCell ⟨g,i,none⟩ v0).setCell ⟨g,i+1,none⟩ v1).setCell ⟨g,i+2,none⟩ v2).setCell ⟨g,i+3,none⟩ v3):=
 ((((Below.refl B W).setCell (p:=⟨g,i,none⟩) h v0).setCell (p:=⟨g,i+1,none⟩) h v1).setCell (p:=⟨g,i+2,none⟩) h v2).setCell (p:=⟨g,i+3,none⟩) h v3
def lenV:Value→Nat|.slice _ n _=>n|_=>0
set_option maxRecDepth 100000 in
set_option maxHeartbeats 4000000 in
theorem merged_any (F:Nat→Prop) (s:Int) (v:Value) (t:List Per) (w:World) (ht:TermR w F v t) (hv:∀ p∈t,FV s p) (hn:t.length≤1000000) :
  Calls Tryz.prog 108 #[v] w fun e w'=>∃ (v':Value) (u:List Per),e=.returned v'∧MergedTo t u∧(∀ p∈u,FV s p)∧TermR w' (fun b=>w.heap.size≤b) v' u∧Below w.heap.size w w':=by
 obtain ⟨L,rfl,hL⟩:=ht
 obtain ⟨a1,c1,rfl,hx1,hx2,_⟩:=hL.row.is
 have hl1:=hL.len
 obtain ⟨bi,hbi,hbz,hbs,hby⟩:=perInfo
 rw [List.length_map] at hn
 have HL:=Lib.hid hL
 have HV:=Lib.hid hv
 clear hL hv
 go_enter Tryz.func108,Tryz.ntmps108
 go_wp2_with fail
 refine wp_scope_again 0 (MJ w s L w.heap.size L.length (.slice a1 L.length c1)) (fun a _=>lenV (a.tmps.getD 3 undef)) rfl ?first ?pass
 case first=>
  go_wp2_with (at_make;refine wpList_make_full _ rfl _ _ 36 rfl w.heap.size 39 bi (.agg #[.slice none 0 0,.int .i64 0,.int .i64 0,.slice none 0 0]) 4 Tryz.underlying36 hbi hbz hbs .i64 .i64 _ _ L.length rfl rfl rfl rfl (by rw [hby];omega) (by unfold maxLen;omega) (by simp) ?_;intro w3 hown3 hgrow3;have hb3:Below w.heap.size w w3:=((Below.refl _ _).grown hgrow3 (by simp) (fun k e=>by cases e)))
  rw [madePer] at hown3
  have hrow0:Row4 w.heap.size w.heap.size L.length w3 (List.replicate L.length (default:PV)):=⟨by rw [List.length_replicate];exact hown3,fun x hx=>by rw [List.eq_of_mem_replicate hx];exact default_ok _ _,by simp,hl1⟩
  have HR0:=Lib.hid hrow0
  have HB0:=Lib.hid hb3
  clear hown3 hgrow3 hrow0 hb3
  go_loopw [4,5,15] (fun _ _ i wr=>∃ (k:Nat) (M:List PV),k≤L.length∧i=.int .i64 k∧Hid (M.length=L.length)∧Hid (∀ q,q<k→(M.getD q default).p=canonC (L.getD q default).p.mem)∧Hid (Row4 w.heap.size w.heap.size L.length wr M)∧Hid (Below w.heap.size w wr)) (fun _ _ i _=>L.length-(intOf i).toNat)
  case atStart=>exact ⟨0,_,by omega,rfl,Lib.hid (by simp),Lib.hid (fun q h=>absurd h (by omega)),HR0,HB0⟩
  case round=>
   obtain ⟨k,M,hk,rfl,HLE,HP,HR,HB⟩:=hrel
   by_cases hlt:k<L.length
   ·have hlI:(k:Int)<L.length:=by omega
    obtain ⟨b1,o1,x,ha,hx,hxp,hb1,e0,e1,e2,e3⟩:=(HL.out.keep (KeepF.below HB.out) HB.out.size).get hlt
    subst ha
    have hfx:FV s x.p:=HV.out _ (by rw [hxp];exact getD_mem' (by simpa using hlt))
    have hpe:(L.getD k default).p=x.p:=by rw [hxp];simp [List.getD_eq_getElem?_getD,hlt]
    obtain ⟨xh,xc,xp⟩:=x
    obtain ⟨ax1,nx1,cx1,ax2,nx2,cx2,rfl,rfl⟩:=hx.form
    dsimp only at e0 e1 e2 e3 hfx hpe
    have HX:=Lib.hid hx
    have HPE:=Lib.hid hpe
    have HC:=fun W (h:Below _ _ W)=>Canon_fv s _ _ xp W (hx.is.ext h) hfx
    have HFX:=Lib.hid hfx
    dsimp only at HC
    clear hx hxp hpe hfx
    have hle:=HR.out.le
    go_wp2_with (go_at_call 97;refine (HC _ xE).mono ?_;rintro e w2 ⟨h',c',rfl,ho,hb2⟩;obtain ⟨a5,m5,a6,m6,rfl,rfl⟩:=ho.form;have hrw:=HR.out.below (show Below wr.heap.size wr w2 by exact xE);obtain ⟨-,g0,g1,g2,g3,g4⟩:=hrw.get (show k<M.length by have:=HLE.out;omega);obtain ⟨hc2,hf2⟩:=bcell hb2;(try simp only [World.size_alloc,World.size_drew,size_drewN,World.size_setCell] at hc2 hf2);have HRW:=Lib.hid hrw;have HO:=Lib.hid ho;have HB2:=Lib.hid (show Below wr.heap.size wr w2 by exact xE);clear hrw ho)
    have hbw:Below w.heap.size w w2:=Et HB.out HB2.out
    go_roundw
    case rel=>
     refine ⟨k+1,M.set k ⟨.slice a5 (canonC xp.mem).head.length m5,.slice a6 (canonC xp.mem).cycle.length m6,canonC xp.mem⟩,by omega,by go_num,Lib.hid (by rw [List.length_set];exact HLE.out),Lib.hid (fun q hq=>?_),Lib.hid (HRW.out.set (x:=⟨_,_,canonC xp.mem⟩) (by have:=HLE.out;omega) ?_),Lib.hid xE⟩
     ·by_cases hqk:q=k
      ·subst hqk
       rw [HPE.out,List.getD_eq_getElem?_getD,List.getElem?_set_self (by have:=HLE.out;omega)];rfl
      ·rw [List.getD_eq_getElem?_getD,List.getElem?_set_ne (by omega),← List.getD_eq_getElem?_getD]
       exact HP.out q (by omega)
     ·refine (HO.out.pv HFX.out.canon.2).mono fun b hb=>?_
      have:=hb.1
      have:=HB.out.size
      simp [World.size_alloc] at *
      omega
    case measure=>simp [intOf];omega
   ·obtain rfl:k=L.length:=by omega
    go_wp2_with fail
    have hmap:M.map PV.p=(L.map PV.p).map fun p=>canonC p.mem:=List.ext_getElem (by simp [HLE.out]) fun i h1 h2=>by
     have h3:=HP.out i (by simpa using h2)
     have h4:i<M.length:=by simpa using h1
     have h5:i<L.length:=by simpa using h2
     rw [List.getD_eq_getElem?_getD,List.getD_eq_getElem?_getD,List.getElem?_eq_getElem h4,List.getElem?_eq_getElem h5] at h3
     simpa using h3
    refine ⟨M,_,_,_,_,_,_,_,_,_,_,_,_,_,_,_,_,_,_,_,_,_,_,_,_,_,_,_,_,_,_,_,_,_,_,_,_,_,_,_,_,_,_,_,_,_,_,_,_,_,_,_,_,_,_,_,_,_,_,_,_,_,_,_,_,_,_,_,_,_,_,_,_,_,_,_,rfl,HLE.out.symm,HR.out,HB.out,fun x hx=>?_,fun u hu=>?_⟩
    ·have h1:x.p∈M.map PV.p:=List.mem_map.2 ⟨x,hx,rfl⟩
     rw [hmap] at h1
     obtain ⟨p,hp,he⟩:=List.mem_map.1 h1
     rw [← he]
     exact (HV.out p hp).canon.2
    ·unfold MergedTo;rw [← hmap];exact hu
 case pass=>
  rintro a W ⟨M,n,u1,u4,u5,u6,u7,u8,u9,u10,u11,u12,u13,u14,u15,u16,u17,u18,u19,u20,u21,u22,u23,u24,u25,u26,u27,u28,u29,u30,u31,u32,u33,u34,u35,u36,u37,u38,u39,u40,u41,u42,u43,u44,u45,u46,u47,u48,u49,u50,u51,u52,u53,u54,u55,u56,u57,u58,u59,u60,u61,u62,u63,u64,u65,u66,u67,u68,u69,u70,u71,u72,u73,u74,u75,u76,rfl,rfl,hinv⟩
  have hrow:=hinv.row
  have hM:=hrow.len
  have HI:=Lib.hid hinv
  have HR:=Lib.hid hrow
  clear hinv hrow
  go_wp2_with fail
  go_loopw [3,6,7,8,9,31] (fun s3 _ _ _ _ idx wr=>∃ ii:Nat,ii≤M.length∧s3=.slice (some ⟨w.heap.size,0,none⟩) M.length L.length∧idx=.int .i64 ii∧Hid (∀ i' j',i'<ii→i'<j'→j'<M.length→¬ divAt (M.map PV.p) i' j')∧Hid (Row4 w.heap.size w.heap.size L.length wr M)∧Hid (Below w.heap.size w wr)) (fun _ _ _ _ _ idx _=>M.length-(intOf idx).toNat)
  case atStart=>exact ⟨0,by omega,rfl,rfl,Lib.hid (fun _ _ h=>absurd h (by omega)),HR,Lib.hid HI.out.bel⟩
  case round=>
   obtain ⟨ii,hi,rfl,rfl,HN2,HR2,HB2⟩:=hrel
   by_cases hlt:ii<M.length
   ·have hiI:(ii:Int)<M.length:=by omega
    go_wp2_with fail
    go_loopw [3,7,8,9] (fun s3 jv _ _ wr=>∃ jj:Nat,ii<jj∧jj≤M.length∧s3=.slice (some ⟨w.heap.size,0,none⟩) M.length L.length∧jv=.int .i64 jj∧Hid (∀ j',ii<j'→j'<jj→¬ divAt (M.map PV.p) ii j')∧Hid (Row4 w.heap.size w.heap.size L.length wr M)∧Hid (Below w.heap.size w wr)) (fun _ jv _ _ _=>M.length-(intOf jv).toNat)
    case atStart=>exact ⟨ii+1,by omega,by omega,rfl,by go_num,Lib.hid (fun _ h1 h2=>absurd h2 (by omega)),HR2,HB2⟩
    case round=>
     obtain ⟨jj,hij,hj,rfl,rfl,HN3,HR3,HB3⟩:=hrel
     by_cases hjl:jj<M.length
     ·have hjI:(jj:Int)<M.length:=by omega
      obtain ⟨hx,i0,i1,i2,i3,hfz⟩:=HR3.out.get hlt
      obtain ⟨hy,j0,j1,j2,j3,-⟩:=HR3.out.get hjl
      have hfx:=HI.out.fv _ (getD_mem' (d:=default) hlt)
      have hfy:=HI.out.fv _ (getD_mem' (d:=default) hjl)
      have hdx:(M.map PV.p).getD ii default=(M.getD ii default).p:=by simp [List.getD_eq_getElem?_getD,hlt]
      have hdy:(M.map PV.p).getD jj default=(M.getD jj default).p:=by simp [List.getD_eq_getElem?_getD,hjl]
      generalize M.getD ii default=x at *
      generalize M.getD jj default=y at *
      obtain ⟨xh,xc,xp⟩:=x
      obtain ⟨yh,yc,yp⟩:=y
      obtain ⟨ax1,nx1,cx1,ax2,nx2,cx2,rfl,rfl⟩:=hx.form
      obtain ⟨ay1,ny1,cy1,ay2,ny2,cy2,rfl,rfl⟩:=hy.form
      dsimp only at i0 i1 i2 i3 j0 j1 j2 j3 hfx hfy hdx hdy
      have HDIV:=fun W=>divides_any ⟨.slice ax1 nx1 cx1,.slice ax2 nx2 cx2,xp⟩ ⟨.slice ay1 ny1 cy1,.slice ay2 ny2 cy2,yp⟩ W hfx.valid.wf.per hfx.valid.per hfy.valid.wf.per hfy.valid.per
      change ∀ W,Calls _ _ #[perV _ _ xp.frm xp.period,perV _ _ yp.frm yp.period] W fun e w'=>e=.returned (.bool (divB xp yp))∧_ at HDIV
      have HDA:Hid (divAt (M.map PV.p) ii jj↔divB xp yp=true):=Lib.hid (by unfold divAt;rw [hdx,hdy])
      have HFX:=Lib.hid hfx
      have HFY:=Lib.hid hfy
      have HX:=Lib.hid hx
      have HY:=Lib.hid hy
      have HDX:=Lib.hid hdx
      have HDY:=Lib.hid hdy
      generalize divB xp yp=dd at *
      clear hfx hfy hx hy hdx hdy
      go_wp2_with fail
      refine wp_region_W (w0:=wr) [0,1,2,3,4,5,6,7,8] [9] (fun v=>⟨#[.slice a1 L.length c1,u1,.slice none 0 0,.slice (some ⟨w.heap.size,0,none⟩) M.length L.length,u4,u5,.int .i64 ↑ii,.int .i64 ↑jj,u8,u9,u10,u11,u12,u13,u14,u15,u16,u17,u18,u19,u20,u21,u22,u23,u24,u25,u26,u27,u28,.slice (some ⟨w.heap.size,0,none⟩) M.length L.length,.int .i64 ↑M.length,.int .i64 ↑ii,.bool true,.int .i64 ↑ii,.int .i64 ↑ii,.int .i64 (↑ii+1),.int .i64 ↑jj,.slice (some ⟨w.heap.size,0,none⟩) M.length L.length,.int .i64 ↑M.length,.bool true,u40,u41,v 0,v 1,v 2,v 3,v 4,v 5,v 6,v 7,v 8,u51,u52,u53,u54,u55,u56,u57,u58,u59,u60,u61,u62,u63,u64,u65,u66,u67,u68,u69,u70,u71,u72,u73,u74,u75,u76],[]⟩) [.slice (some ⟨w.heap.size,0,none⟩) M.length L.length,.int .i64 ii,.pointer (some ⟨w.heap.size,ii*4,none⟩),perV (.slice ax1 nx1 cx1) (.slice ax2 nx2 cx2) xp.frm xp.period,.slice (some ⟨w.heap.size,0,none⟩) M.length L.length,.int .i64 jj,.pointer (some ⟨w.heap.size,jj*4,none⟩),perV (.slice ay1 ny1 cy1) (.slice ay2 ny2 cy2) yp.frm yp.period,.bool dd] [] (fun _ _ _ _ _=>True) (fun W=>Row4 w.heap.size w.heap.size L.length W M∧(W.cell? ⟨w.heap.size,ii*4,none⟩=some (.slice ax1 nx1 cx1)∧W.cell? ⟨w.heap.size,ii*4+1,none⟩=some (.int .i64 xp.frm)∧W.cell? ⟨w.heap.size,ii*4+2,none⟩=some (.int .i64 xp.period)∧W.cell? ⟨w.heap.size,ii*4+3,none⟩=some (.slice ax2 nx2 cx2))∧(W.cell? ⟨w.heap.size,jj*4,none⟩=some (.slice ay1 ny1 cy1)∧W.cell? ⟨w.heap.size,jj*4+1,none⟩=some (.int .i64 yp.frm)∧W.cell? ⟨w.heap.size,jj*4+2,none⟩=some (.int .i64 yp.period)∧W.cell? ⟨w.heap.size,jj*4+3,none⟩=some (.slice ay2 ny2 cy2))) (fun W hb=>⟨HR3.out.below hb,⟨cux i0 hb,cux i1 hb,cux i2 hb,cux i3 hb⟩,cux j0 hb,cux j1 hb,cux j2 hb,cux j3 hb⟩) trivial trivial ?steps ?fin (fun j=>match j with|0=>u42|1=>u43|2=>u44|3=>u45|4=>u46|5=>u47|6=>u48|7=>u49|8=>u50|_=>undef)
      case steps=>
       refine .c [] [] rfl ?_ (.c [] [] rfl ?_ (.c [0,1] [] rfl ?_ (.c [2] [] rfl ?_ (.c [] [] rfl ?_ (.c [] [] rfl ?_ (.c [4,5] [] rfl ?_ (.c [6] [] rfl ?_ (.c [3,7] [] rfl ?_ (.n)))))))))
       all_goals try exact stw
       ·rintro v lo hi W hb ⟨hR,⟨g0,g1,g2,g3⟩,k0,k1,k2,k3⟩ _
        refine .inl ⟨rfl,fun K hK=>?_⟩
        simp only [ov,vat,Nat.reduceBEq,cond_true,cond_false]
        go_wp2_with (go_at_call 109;refine (HDIV _).mono ?_;rintro e w9 ⟨rfl,hb9⟩)
        exact acx (hK w9 hb9) (by simp [ov,vat,upd])
      case fin=>
       rintro v lo hi9 W2 hb ⟨hR,⟨g0,g1,g2,g3⟩,k0,k1,k2,k3⟩ hf hap
       show wpList _ _ _ [_] _ _
       have e8:v 8=.bool dd:=(hf 8 rfl).2.2.2
       clear hf hap
       dsimp only
       rw [e8]
       clear e8
       generalize v 0=y0
       generalize v 1=y1
       generalize v 2=y2
       generalize v 3=y3
       generalize v 4=y4
       generalize v 5=y5
       generalize v 6=y6
       generalize v 7=y7
       have HB4:=Lib.hid hb
       clear hb
       cases dd with
       | false=>
        have HRW:=Lib.hid hR
        clear hR g0 g1 g2 g3 k0 k1 k2 k3
        go_wp2_with fail
        go_roundw
        case rel=>exact ⟨jj+1,by omega,by omega,rfl,by go_num,Lib.hid (fun j' h1 h2=>by
         by_cases h3:j'<jj
         ·exact HN3.out j' h1 h3
         ·obtain rfl:j'=jj:=by omega
          rw [HDA.out];decide),HRW,Lib.hid (Et HB3.out HB4.out)⟩
        case measure=>simp [intOf];omega
       | true=>
        obtain ⟨q,hq⟩:∃ q,q=andP xp yp:=⟨_,rfl⟩
        have HQ:=Lib.hid hq
        have HFQ:Hid (FV s q):=Lib.hid (by rw [hq];exact HFX.out.and HFY.out)
        have HAND:∀ W,Below W2.heap.size W2 W→Calls Tryz.prog 72 #[perV (.slice ax1 nx1 cx1) (.slice ax2 nx2 cx2) xp.frm xp.period,perV (.slice ay1 ny1 cy1) (.slice ay2 ny2 cy2) yp.frm yp.period] W (PerOk q W):=fun W h=>by
         rw [hq];exact And_fv s _ _ _ _ xp yp W (HX.out.is.ext (Et HB4.out h)) (HY.out.is.ext (Et HB4.out h)) HFX.out HFY.out
        clear hq
        have HRW:=Lib.hid hR
        have hW2:=HB4.out.size
        have hle:=hR.le
        go_wp2_with fail
        refine Code.wp_mono (Q:=fun e a' W'=>e=.normal∧(∃ (nb:Nat) (h c:Value) (z52 z53 z54 z55 z56 z57 z58 z59 z60 z61 z62 z63:Value),a'=⟨#[.slice a1 L.length c1,u1,.slice none 0 0,.slice (some ⟨w.heap.size,0,none⟩) M.length L.length,u4,u5,.int .i64 ↑ii,.int .i64 ↑jj,.pointer (some ⟨nb,0,none⟩),.int .i64 0,u10,u11,u12,u13,u14,u15,u16,u17,u18,u19,u20,u21,u22,u23,u24,u25,u26,u27,u28,.slice (some ⟨w.heap.size,0,none⟩) M.length L.length,.int .i64 ↑M.length,.int .i64 ↑ii,.bool true,.int .i64 ↑ii,.int .i64 ↑ii,.int .i64 (↑ii+1),.int .i64 ↑jj,.slice (some ⟨w.heap.size,0,none⟩) M.length L.length,.int .i64 ↑M.length,.bool true,u40,u41,y0,y1,y2,y3,y4,y5,y6,y7,.bool true,.bool false,z52,z53,z54,z55,z56,z57,z58,z59,z60,z61,z62,z63,u64,u65,u66,u67,u68,u69,u70,u71,u72,u73,u74,u75,u76],[]⟩∧MgP w.heap.size q nb h c W')∧Below W2.heap.size W2 W') ?imp ?reg
        case reg=>
         refine wp_region_factsX (w0:=W2) [0,1,2,3,4,5,6,7,8,9,10,11,12] 11 13 [14] (fun v=>⟨#[.slice a1 L.length c1,u1,.slice none 0 0,.slice (some ⟨w.heap.size,0,none⟩) M.length L.length,u4,u5,.int .i64 ↑ii,.int .i64 ↑jj,v 12,u9,u10,u11,u12,u13,u14,u15,u16,u17,u18,u19,u20,u21,u22,u23,u24,u25,u26,u27,u28,.slice (some ⟨w.heap.size,0,none⟩) M.length L.length,.int .i64 ↑M.length,.int .i64 ↑ii,.bool true,.int .i64 ↑ii,.int .i64 ↑ii,.int .i64 (↑ii+1),.int .i64 ↑jj,.slice (some ⟨w.heap.size,0,none⟩) M.length L.length,.int .i64 ↑M.length,.bool true,u40,u41,y0,y1,y2,y3,y4,y5,y6,y7,.bool true,.bool false,v 9,v 0,v 1,v 2,v 3,v 4,v 5,v 6,v 7,v 8,v 10,v 11,u64,u65,u66,u67,u68,u69,u70,u71,u72,u73,u74,u75,u76],[]⟩) (fun j=>match j with|0=>u53|1=>u54|2=>u55|3=>u56|4=>u57|5=>u58|6=>u59|7=>u60|8=>u61|9=>u52|10=>u62|11=>u63|12=>u8|_=>undef)
          (fun i v lo hi W=>match i with
           | 0=>v 0=.slice (some ⟨w.heap.size,0,none⟩) M.length L.length
           | 1=>v 1=.int .i64 ii
           | 2=>v 2=.pointer (some ⟨w.heap.size,ii*4,none⟩)
           | 3=>v 3=perV (.slice ax1 nx1 cx1) (.slice ax2 nx2 cx2) xp.frm xp.period
           | 4=>v 4=.slice (some ⟨w.heap.size,0,none⟩) M.length L.length
           | 5=>v 5=.int .i64 jj
           | 6=>v 6=.pointer (some ⟨w.heap.size,jj*4,none⟩)
           | 7=>v 7=perV (.slice ay1 ny1 cy1) (.slice ay2 ny2 cy2) yp.frm yp.period
           | 8=>∃ h c,v 8=.tuple #[perV h c q.frm q.period,.int .i64 0]∧PerAt W (lo 8) (hi 8) h c q
           | 9=>v 9=v 8∧∃ h c,v 9=.tuple #[perV h c q.frm q.period,.int .i64 0]
           | 10=>∃ h c,v 9=.tuple #[perV h c q.frm q.period,.int .i64 0]∧v 10=perV h c q.frm q.period
           | 11=>v 11=.int .i64 0
           | 12=>v 12=.pointer (some ⟨lo 12,0,none⟩)∧lo 12<hi 12∧Bxx W (lo 12) #[.slice none 0 0,.int .i64 0,.int .i64 0,.slice none 0 0] 39
           | _=>True)
          (fun W=>Row4 w.heap.size w.heap.size L.length W M∧(W.cell? ⟨w.heap.size,ii*4,none⟩=some (.slice ax1 nx1 cx1)∧W.cell? ⟨w.heap.size,ii*4+1,none⟩=some (.int .i64 xp.frm)∧W.cell? ⟨w.heap.size,ii*4+2,none⟩=some (.int .i64 xp.period)∧W.cell? ⟨w.heap.size,ii*4+3,none⟩=some (.slice ax2 nx2 cx2))∧(W.cell? ⟨w.heap.size,jj*4,none⟩=some (.slice ay1 ny1 cy1)∧W.cell? ⟨w.heap.size,jj*4+1,none⟩=some (.int .i64 yp.frm)∧W.cell? ⟨w.heap.size,jj*4+2,none⟩=some (.int .i64 yp.period)∧W.cell? ⟨w.heap.size,jj*4+3,none⟩=some (.slice ay2 ny2 cy2))) rfl (by kernel_rfl) (by decide) rfl ?stab ?loc (fun W hb=>⟨hR.below hb,⟨cux g0 hb,cux g1 hb,cux g2 hb,cux g3 hb⟩,cux k0 hb,cux k1 hb,cux k2 hb,cux k3 hb⟩) ?steps ?fin ?fin2
         case stab=>
          rintro (_|_|_|_|_|_|_|_|_|_|_|_|_|i) v lo hi W W' h hb
          ·exact h
          ·exact h
          ·exact h
          ·exact h
          ·exact h
          ·exact h
          ·exact h
          ·exact h
          ·exact (let ⟨x1,x2,e,hp⟩:=h;⟨x1,x2,e,hp.below hb⟩)
          ·exact h
          ·exact h
          ·exact h
          ·exact ⟨h.1,h.2.1,h.2.2.below hb⟩
          ·trivial
         case loc=>
          rintro (_|_|_|_|_|_|_|_|_|_|_|_|_|i) v v' lo lo' hi hi' W hag h
          ·exact (hag 0 (.inl rfl)).1 ▸ h
          ·exact (hag 1 (.inl rfl)).1 ▸ h
          ·exact (hag 2 (.inl rfl)).1 ▸ h
          ·exact (hag 3 (.inl rfl)).1 ▸ h
          ·exact (hag 4 (.inl rfl)).1 ▸ h
          ·exact (hag 5 (.inl rfl)).1 ▸ h
          ·exact (hag 6 (.inl rfl)).1 ▸ h
          ·exact (hag 7 (.inl rfl)).1 ▸ h
          ·have q:=hag 8 (.inl rfl)
           have q3:=hag 3 (.inr (Rdp (by kernel_rfl)))
           have q7:=hag 7 (.inr (Rdp (by kernel_rfl)))
           (try dsimp only at h ⊢);(try simp only [q.1,q.2.1,q.2.2,q3.1,q3.2.1,q3.2.2,q7.1,q7.2.1,q7.2.2] at h);exact h
          ·have q:=hag 9 (.inl rfl)
           have q8:=hag 8 (.inr (Rdp (by kernel_rfl)))
           (try dsimp only at h ⊢);(try simp only [q.1,q.2.1,q.2.2,q8.1,q8.2.1,q8.2.2] at h);exact h
          ·have q:=hag 10 (.inl rfl)
           have q9:=hag 9 (.inr (Rdp (by kernel_rfl)))
           (try dsimp only at h ⊢);(try simp only [q.1,q.2.1,q.2.2,q9.1,q9.2.1,q9.2.2] at h);exact h
          ·exact (hag 11 (.inl rfl)).1 ▸ h
          ·have q:=hag 12 (.inl rfl)
           (try dsimp only at h ⊢);(try simp only [q.1,q.2.1,q.2.2] at h);exact h
          ·trivial
         case steps=>
          clear hR g0 g1 g2 g3 k0 k1 k2 k3
          refine StepsH.cons rfl ?_ (StepsH.cons rfl ?_ (StepsH.cons rfl ?_ (StepsH.cons rfl ?_ (StepsH.cons rfl ?_ (StepsH.cons rfl ?_ (StepsH.cons rfl ?_ (StepsH.cons rfl ?_ (StepsH.cons rfl ?_ (StepsH.cons rfl ?_ (StepsH.cons rfl ?_ (StepsH.cons rfl ?_ (StepsH.cons rfl ?_ StepsH.nil))))))))))))
          ·rintro v lo hi W hb ⟨_,⟨g0,g1,g2,g3⟩,k0,k1,k2,k3⟩ hd
           clear hd
           refine ⟨rfl,?_⟩
           intro K hK
           dsimp only
           go_wp2_with fail
           exact acx (hK (.slice (some ⟨w.heap.size,0,none⟩) M.length L.length) W (Below.refl _ _) rfl) (by simp)
          ·rintro v lo hi W hb ⟨_,⟨g0,g1,g2,g3⟩,k0,k1,k2,k3⟩ hd
           clear hd
           refine ⟨rfl,?_⟩
           intro K hK
           dsimp only
           go_wp2_with fail
           exact acx (hK (.int .i64 ii) W (Below.refl _ _) rfl) (by simp)
          ·rintro v lo hi W hb ⟨_,⟨g0,g1,g2,g3⟩,k0,k1,k2,k3⟩ hd
           have e0:v 0=.slice (some ⟨w.heap.size,0,none⟩) M.length L.length:=(hd 0 (Rdp (by kernel_rfl))).2.2
           have e1:v 1=.int .i64 ii:=(hd 1 (Rdp (by kernel_rfl))).2.2
           clear hd
           refine ⟨rfl,?_⟩
           intro K hK
           dsimp only
           (try simp only [e0,e1])
           go_wp2_with fail
           exact acx (hK (.pointer (some ⟨w.heap.size,ii*4,none⟩)) W (Below.refl _ _) rfl) (by simp [e0,e1])
          ·rintro v lo hi W hb ⟨_,⟨g0,g1,g2,g3⟩,k0,k1,k2,k3⟩ hd
           have e2:v 2=.pointer (some ⟨w.heap.size,ii*4,none⟩):=(hd 2 (Rdp (by kernel_rfl))).2.2
           clear hd
           refine ⟨rfl,?_⟩
           intro K hK
           dsimp only
           (try simp only [e2])
           go_wp2_with fail
           exact acx (hK (perV (.slice ax1 nx1 cx1) (.slice ax2 nx2 cx2) xp.frm xp.period) W (Below.refl _ _) rfl) (by simp [e2])
          ·rintro v lo hi W hb ⟨_,⟨g0,g1,g2,g3⟩,k0,k1,k2,k3⟩ hd
           clear hd
           refine ⟨rfl,?_⟩
           intro K hK
           dsimp only
           go_wp2_with fail
           exact acx (hK (.slice (some ⟨w.heap.size,0,none⟩) M.length L.length) W (Below.refl _ _) rfl) (by simp)
          ·rintro v lo hi W hb ⟨_,⟨g0,g1,g2,g3⟩,k0,k1,k2,k3⟩ hd
           clear hd
           refine ⟨rfl,?_⟩
           intro K hK
           dsimp only
           go_wp2_with fail
           exact acx (hK (.int .i64 jj) W (Below.refl _ _) rfl) (by simp)
          ·rintro v lo hi W hb ⟨_,⟨g0,g1,g2,g3⟩,k0,k1,k2,k3⟩ hd
           have e4:v 4=.slice (some ⟨w.heap.size,0,none⟩) M.length L.length:=(hd 4 (Rdp (by kernel_rfl))).2.2
           have e5:v 5=.int .i64 jj:=(hd 5 (Rdp (by kernel_rfl))).2.2
           clear hd
           refine ⟨rfl,?_⟩
           intro K hK
           dsimp only
           (try simp only [e4,e5])
           go_wp2_with fail
           exact acx (hK (.pointer (some ⟨w.heap.size,jj*4,none⟩)) W (Below.refl _ _) rfl) (by simp [e4,e5])
          ·rintro v lo hi W hb ⟨_,⟨g0,g1,g2,g3⟩,k0,k1,k2,k3⟩ hd
           have e6:v 6=.pointer (some ⟨w.heap.size,jj*4,none⟩):=(hd 6 (Rdp (by kernel_rfl))).2.2
           clear hd
           refine ⟨rfl,?_⟩
           intro K hK
           dsimp only
           (try simp only [e6])
           go_wp2_with fail
           exact acx (hK (perV (.slice ay1 ny1 cy1) (.slice ay2 ny2 cy2) yp.frm yp.period) W (Below.refl _ _) rfl) (by simp [e6])
          ·rintro v lo hi W hb ⟨_,⟨g0,g1,g2,g3⟩,k0,k1,k2,k3⟩ hd
           have e3:v 3=perV (.slice ax1 nx1 cx1) (.slice ax2 nx2 cx2) xp.frm xp.period:=(hd 3 (Rdp (by kernel_rfl))).2.2
           have e7:v 7=perV (.slice ay1 ny1 cy1) (.slice ay2 ny2 cy2) yp.frm yp.period:=(hd 7 (Rdp (by kernel_rfl))).2.2
           clear hd
           refine ⟨rfl,?_⟩
           intro K hK
           dsimp only
           (try simp only [e3,e7])
           go_wp2_with (go_at_call 72;refine (HAND _ xE).mono ?_;rintro e w9 ⟨h',c',rfl,ho,hb9⟩)
           exact acx (hK (.tuple #[perV h' c' q.frm q.period,.int .i64 0]) w9 hb9 ⟨h',c',rfl,ho.at⟩) (by simp [e3,e7])
          ·rintro v lo hi W hb ⟨_,⟨g0,g1,g2,g3⟩,k0,k1,k2,k3⟩ hd
           obtain ⟨la8,lb8,D8⟩:=hd 8 (Rdp (by kernel_rfl))
           clear hd
           refine ⟨rfl,?_⟩
           intro K hK
           dsimp only
           obtain ⟨h8,c8,e8,_⟩:=D8
           go_wp2_with fail
           exact acx (hK (v 8) W (Below.refl _ _) ⟨rfl,h8,c8,e8⟩) (by simp [e8])
          ·rintro v lo hi W hb ⟨_,⟨g0,g1,g2,g3⟩,k0,k1,k2,k3⟩ hd
           obtain ⟨la9,lb9,D9⟩:=hd 9 (Rdp (by kernel_rfl))
           clear hd
           refine ⟨rfl,?_⟩
           intro K hK
           dsimp only
           obtain ⟨-,h9,c9,e9⟩:=D9
           simp only [e9]
           go_wp2_with fail
           exact acx (hK (perV h9 c9 q.frm q.period) W (Below.refl _ _) ⟨h9,c9,e9,rfl⟩) (by simp [e9])
          ·rintro v lo hi W hb ⟨_,⟨g0,g1,g2,g3⟩,k0,k1,k2,k3⟩ hd
           obtain ⟨la9,lb9,D9⟩:=hd 9 (Rdp (by kernel_rfl))
           clear hd
           refine ⟨rfl,?_⟩
           intro K hK
           dsimp only
           obtain ⟨-,h9,c9,e9⟩:=D9
           simp only [e9]
           go_wp2_with fail
           exact acx (hK (.int .i64 0) W (Below.refl _ _) rfl) (by simp [e9])
          ·rintro v lo hi W hb ⟨_,⟨g0,g1,g2,g3⟩,k0,k1,k2,k3⟩ hd
           clear hd
           refine ⟨rfl,?_⟩
           intro K hK
           dsimp only
           go_wp2_with fail
           exact hK (.pointer (some ⟨W.heap.size,0,none⟩)) _ (Ea (Er _) _) ⟨rfl,by simp,Bxx.new _ _ _⟩
         case fin=>
          rintro v lo hi9 W5 hb5 ⟨hR5,-,-⟩ hf hap
          show wpList _ _ _ [_,_] _ _
          obtain ⟨l8,-,h8,h,c,e8,hp8⟩:=hf 8 rfl
          obtain ⟨-,-,-,e9,-⟩:=hf 9 rfl
          obtain ⟨-,-,-,h',c',e9',e10⟩:=hf 10 rfl
          have e11:v 11=.int .i64 0:=(hf 11 rfl).2.2.2
          obtain ⟨l12,-,h12,e12,lt12,hbox⟩:=hf 12 rfl
          have hd:=hap 8 12 rfl rfl (by decide)
          clear hf hap
          rw [e9,e8] at e9'
          obtain ⟨rfl,rfl⟩:h=h'∧c=c':=by simpa [perV] using e9'
          dsimp only
          rw [e10,e11,e12]
          clear e10 e11 e12 e9 e9' e8
          obtain ⟨nb,hnb⟩:∃ nb,nb=lo 12:=⟨_,rfl⟩
          rw [← hnb] at hd hbox l12 lt12 ⊢
          have hpi:=hp8.inn
          generalize lo 8=l8v at *
          generalize hi9 8=h8v at *
          generalize hi9 12=h12v at *
          clear hnb hp8
          obtain ⟨a5,m5,a6,m6,rfl,rfl⟩:=hpi.form
          have g0:=hbox.cells 0
          have g1:=hbox.cells 1
          have g2:=hbox.cells 2
          have g3:=hbox.cells 3
          have HMG:=Lib.hid (MgP.of hpi HFQ.out (show w.heap.size<l8v by omega) hbox (by omega) (by omega))
          have HB5:=Lib.hid hb5
          clear hbox hpi hd hR5
          generalize v 0=z0
          generalize v 1=z1
          generalize v 2=z2
          generalize v 3=z3
          generalize v 4=z4
          generalize v 5=z5
          generalize v 6=z6
          generalize v 7=z7
          generalize v 8=z8
          generalize v 9=z9
          go_wp2_with fail
          exact ⟨⟨_,_,HMG.out⟩,by have hb5:=HB5.out;exact xE⟩
         case fin2=>
          rintro v lo hi9 W5 hb5 ⟨hR5,-,-⟩ hf hap
          obtain ⟨l8,-,h8,h,c,e8,hp8⟩:=hf 8 rfl (by decide)
          obtain ⟨-,-,-,e9,-⟩:=hf 9 rfl (by decide)
          obtain ⟨-,-,-,h',c',e9',e10⟩:=hf 10 rfl (by decide)
          obtain ⟨l12,-,h12,e12,lt12,hbox⟩:=hf 12 rfl (by decide)
          have hd:=hap 8 12 rfl rfl (by decide) (by decide) (by decide)
          clear hf hap
          rw [e9,e8] at e9'
          obtain ⟨rfl,rfl⟩:h=h'∧c=c':=by simpa [perV] using e9'
          have e99:=e9.trans e8
          dsimp only
          rw [e10,e12,e99]
          clear e10 e12 e9 e9' e8 e99
          obtain ⟨nb,hnb⟩:∃ nb,nb=lo 12:=⟨_,rfl⟩
          rw [← hnb] at hd hbox l12 lt12 ⊢
          have hpi:=hp8.inn
          generalize lo 8=l8v at *
          generalize hi9 8=h8v at *
          generalize hi9 12=h12v at *
          clear hnb hp8
          obtain ⟨a5,m5,a6,m6,rfl,rfl⟩:=hpi.form
          have g0:=hbox.cells 0
          have g1:=hbox.cells 1
          have g2:=hbox.cells 2
          have g3:=hbox.cells 3
          have HMG:=Lib.hid (MgP.of hpi HFQ.out (show w.heap.size<l8v by omega) hbox (by omega) (by omega))
          have HB5:=Lib.hid hb5
          clear hbox hpi hd hR5
          generalize v 0=z0
          generalize v 1=z1
          generalize v 2=z2
          generalize v 3=z3
          generalize v 4=z4
          generalize v 5=z5
          generalize v 6=z6
          generalize v 7=z7
          generalize v 8=z8
          generalize v 11=z11
          constructor
          ·show wpList _ _ _ [_,_,_] _ _
           go_wp2_with fail
           exact ⟨⟨_,_,HMG.out⟩,by have hb5:=HB5.out;exact xE⟩
          ·show wpList _ _ _ [_,_,_] _ _
           go_wp2_with fail
           exact ⟨⟨_,_,HMG.out⟩,by have hb5:=HB5.out;exact xE⟩
        case imp=>
         rintro e a' W6 ⟨rfl,⟨nb,h,c,z52,z53,z54,z55,z56,z57,z58,z59,z60,z61,z62,z63,rfl,hP⟩,hb6⟩
         obtain ⟨a5,n5,m5,a6,n6,m6,rfl,rfl⟩:=hP.ok.form
         have p0:=hP.c0
         have p1:=hP.c1
         have p2:=hP.c2
         have p3:=hP.c3
         have hrow:=HRW.out.below hb6
         obtain ⟨-,r0,r1,r2,r3,r4⟩:=hrow.get hlt
         have hset:=hrow.set (x:=⟨_,_,q⟩) hlt hP.ok
         have hdel:=row_delete _ _ _ jj _ _ hset (by rw [List.length_set];exact hjl)
         rw [List.length_set] at hdel
         have hgr:=below_set4 W6 (i:=ii*4) (Nat.le_refl w.heap.size) (.slice a5 n5 m5) (.int .i64 q.frm) (.int .i64 q.period) (.slice a6 n6 m6)
         have HGR:=Lib.hid hgr
         have HB6:=Lib.hid hb6
         clear hP hrow hset hgr hb6
         go_wp2_with (go_at_call 145;refine hdel.mono ?_;rintro e w8 ⟨rfl,hr8,hg8⟩)
         go_step3
         have hb8:Below w.heap.size w w8:=by
          have h1:Below w.heap.size w W6:=Et (Et HB3.out HB4.out) HB6.out
          exact h1.trans (HGR.out.trans (World.grownBy.below' hg8 (Nat.le_refl _) (h1.trans HGR.out).size))
         refine ⟨rfl,⟨_,_,_,_,_,_,_,_,_,_,_,_,_,_,_,_,_,_,_,_,_,_,_,_,_,_,_,_,_,_,_,_,_,_,_,_,_,_,_,_,_,_,_,_,_,_,_,_,_,_,_,_,_,_,_,_,_,_,_,_,_,_,_,_,_,_,_,_,_,_,_,_,_,_,_,_,rfl,?_,hr8,hb8,?_,?_⟩,?_⟩
         ·rw [List.length_eraseIdx_of_lt (by rw [List.length_set];exact hjl),List.length_set]
         ·intro z hz
          have h1:=List.mem_of_mem_eraseIdx hz
          rcases List.mem_or_eq_of_mem_set h1 with h2|rfl
          ·exact HI.out.fv z h2
          ·exact HFQ.out
         ·intro u hu
          refine HI.out.tom u (MergeTo.step (i:=ii) (j:=jj) ⟨hij,by rw [List.length_map];exact hjl,(by have:=HDA.out;simpa using this),fun i' j' h1 h2 h3=>HN2.out i' j' h1 h2 (by rwa [List.length_map] at h3),HN3.out⟩ ?_)
          rw [← map_merge hlt hjl (x:=⟨.slice a5 n5 m5,.slice a6 n6 m6,q⟩) (by rw [HDX.out,HDY.out];exact HQ.out)]
          exact hu
         ·show M.length-1<M.length
          omega
     ·obtain rfl:jj=M.length:=by omega
      go_wp2_with fail
      go_roundw
      case rel=>exact ⟨ii+1,by omega,rfl,by go_num,Lib.hid (fun i' j' h1 h2 h3=>by
       by_cases h4:i'<ii
       ·exact HN2.out i' j' h4 h2 h3
       ·obtain rfl:i'=ii:=by omega
        exact HN3.out j' h2 h3),HR3,HB3⟩
      case measure=>simp [intOf];omega
   ·obtain rfl:ii=M.length:=by omega
    go_wp2_with fail
    simp only [Exit.jump]
    go_ret
    refine ⟨_,M.map PV.p,rfl,HI.out.tom _ (MergeTo.done fun i' j' h1 h2=>HN2.out i' j' (by rw [List.length_map] at h2;omega) h1 (by rwa [List.length_map] at h2)),fun p hp=>?_,⟨M,rfl,HR2.out.term⟩,HB2.out⟩
    obtain ⟨z,hz,rfl⟩:=List.mem_map.1 hp
    exact HI.out.fv z hz
end Go.Proofs.YthjnojbeimchdaaGreat
namespace Go
open Go.RowKit
variable {P:Program}
def SeqY {α:Type} (P:Program) (g:Nat) (lb:Array Value) (encs:α→Array Value) (Kp:World→World→Prop) (x:Option Nat) (Ey:List α→α→World→Prop) (Fin:List α→Prop) (w:World):Prop:=
 ∀ (l:Nat) (J:List α→World→Prop) (W:World),Below w.heap.size w W→AbidesX x J→
  (∀ pre y W1,J pre W1→Ey pre y W1→YieldAt Fence.wide 0 P l (encs y) W1 fun e W'=>e=.returned (.bool true)∧J (pre ++ [y]) W'∧Kp W1 W')→
  J [] W→
  CallsIn Fence.wide 0 P g (#[.func (.yield l) #[] #[]] ++ lb) W fun e W'=>(∃ v,e=.returned v)∧∃ xs,Fin xs∧J xs W'
def postY (B:Nat) (Kp:World→World→Prop) (I:World→Prop) (W:World):Exit→Act→World→Prop
 | .normal,_,W3=>KeepsFrom B W W3∧Kp W W3∧I W3
 | _,_,_=>False
set_option maxHeartbeats 1000000 in
theorem wpIn_rangeY {α:Type} {g:Operand} {ps:Array Tmp} {assign body:Code} {Q:Exit→Act→World→Prop} {a:Act} {w:World}
  {gf:Nat} {lb:Array Value} (hg:a.eval g=.func (.func gf) #[] lb) (eg:∀ args w,(callFunc gf args).run P w=.ok (.enter gf args) w)
  {encs:α→Array Value} {Kp:World→World→Prop} {x:Option Nat} {Ey:List α→α→World→Prop} {Fin:List α→Prop} (hseq:SeqY P gf lb encs Kp x Ey Fin w)
  (hKt:∀ {A B C:World},Kp A B→Kp B C→Kp A C) (hKb:∀ (W:World) (l:Nat) (o o':Obj),w.heap.size≤l→W.heap[l]? = some o→o.isCells=false→Kp W (W.putObj l o')) (hps:∀ y,(encs y).size=ps.size)
  (I:List α→World→Prop) (hI:OwnX w.heap.size x I) (hEy:∀ pre y (W:World) (l:Nat) (o o':Obj),W.heap[l]? = some o→o.isCells=false→Ey pre y W→Ey pre y (W.putObj l o')) (h0:I [] w) (a₁:α→Act)
  (hassign:∀ (l:Nat) (y:α) (W:World) (K:Act→World→Prop),K (a₁ y) W→
   assign.wpIn (Fence.wide.inRound l) 0 P (Exit.then K (fun _ _ _=>False)) { tmps:=(ps.zip (encs y)).foldl (fun t (p,v)=>t.setIfInBounds p v) a.tmps,defers:=[] } W)
  (hbody:∀ (l:Nat) (pre:List α) (y:α) (W:World),I pre W→Ey pre y W→body.wpIn (Fence.wide.inRound l) 0 P (postY w.heap.size Kp (I (pre ++ [y])) W) (a₁ y) W)
  (hdone:∀ (D:Nat) (xs:List α) (W:World),w.heap.size≤D→Fin xs→I xs W→W.heap[D]? = some (.deferred (some []))→Q .normal { a with defers:={ target:=.collected D,args:=#[] } :: a.defers } W) :
  (Code.rangeFunc g ps assign body).wpIn Fence.wide 0 P Q a w:=by
 refine wpIn_rangeFunc ?_
 intro fn hfn
 obtain ⟨rec,hrec⟩:∃ rec:LoopState→Option Code→Loop,rec=fun st pe=>{ state:=st,pending:=pe,fn,tmps:=a.tmps,params:=ps,assign,body,defers:=w.heap.size }:=⟨_,rfl⟩
 obtain ⟨W1,hW1⟩:∃ W1,(w.alloc (.deferred (some []))).alloc (.loop (rec .ready none))=W1:=⟨_,rfl⟩
 have hL1:W1.heap[w.heap.size+1]? = some (.loop (rec .ready none)):=by
  rw [← hW1];have:=World.alloc_heap_new (w.alloc (.deferred (some []))) (.loop (rec .ready none));rwa [World.size_alloc] at this
 have hK1:W1.heap[w.heap.size]? = some (.deferred (some [])):=by
  rw [← hW1];exact (Below.heap_alloc _ _ _ (by simp)).trans (World.alloc_heap_new w _)
 have hI1:I [] W1:=by rw [← hW1];exact hI.alloc _ (hI.alloc _ h0)
 have hb1:Below w.heap.size w W1:=by
  rw [← hW1];exact (((Below.refl _ w).alloc (Nat.le_refl _) _).alloc (by simp) _)
 refine ⟨w.heap.size+1,[{ target:=.collected w.heap.size,args:=#[] }],W1,{ target:=.fn (.func gf) lb,args:=#[.func (.yield (w.heap.size+1)) #[] #[]] },W1,gf,
  #[.func (.yield (w.heap.size+1)) #[] #[]] ++ lb,W1,?_,?_,?_,?_,(fun h=>by cases h),?_⟩
 ·rw [← hW1,hrec];exact run_enterLoop_outer _ _ _ _ _
 ·simp only [resolve,hg]
  simp [go_sem]
 ·intro f' _;trivial
 ·simp [invoke,go_sem,eg]
 ·have hkeep:∀ {A B:World} {row:Option Nat} {l:Nat} {o:Obj},A.grownBy B row→(∀ r,row=some r→x=some r∧∃ o:Obj,A.heap[r]? = some o∧o.isCells=true)→A.heap[l]? = some o→o.isCells=false→B.heap[l]? = some o:=
   fun {A B row l o} hg' hr hl ho=>by
    refine (hg'.block l (Array.getElem?_eq_some_iff.1 hl).1 fun e=>?_).trans hl
    obtain ⟨_,o2,ho2,hc⟩:=hr l e.symm
    rw [hl] at ho2;cases ho2;rw [ho] at hc;cases hc
  refine (hseq (w.heap.size+1)
   (fun pre W=>I pre W∧W.heap[w.heap.size+1]? = some (.loop (rec .ready none))∧W.heap[w.heap.size]? = some (.deferred (some [])))
   W1 hb1
   (fun s A B row hs hg' hr=>⟨hI s A B row hs.1 hg' (fun r e=>.inl (hr r e)),hkeep hg' hr hs.2.1 rfl,hkeep hg' hr hs.2.2 rfl⟩)
   ?_ ⟨hI1,hL1,hK1⟩).mono ?_
  ·rintro pre y W ⟨hi,hl,hk⟩ hlen
   have hlt:w.heap.size+1<W.heap.size:=(Array.getElem?_eq_some_iff.1 hl).1
   have hy:=run_yield (P:=P) (args:=encs y) hl (by rw [hrec];exact hps y)
   rw [hrec] at hy
   refine ⟨fn,_,assign,body,hy,roundIn_of_wpIn hfn (hassign _ y W _ ?_)⟩
   clear hy
   refine ⟨_,run_beginRound hl (by rw [hrec]),?_⟩
   have hl2:(W.putObj (w.heap.size+1) (.loop { rec .ready none with state:=.busy })).heap[w.heap.size+1]? = some (.loop { rec .ready none with state:=.busy }):=World.putObj_heap_same hlt
   have hk2:(W.putObj (w.heap.size+1) (.loop { rec .ready none with state:=.busy })).heap[w.heap.size]? = some (.deferred (some [])):=(World.putObj_heap_other (by omega)).trans hk
   have hw2:Kp W (W.putObj (w.heap.size+1) (.loop { rec .ready none with state:=.busy })):=hKb _ _ _ _ (by omega) hl rfl
   refine wpIn_mono (hbody _ pre y _ (hI.putObj _ hi (by omega) hl rfl) (hEy _ _ _ _ _ _ hl rfl hlen)) ?_
   have fin:∀ (jump:Option Code) (W3:World),KeepsFrom w.heap.size (W.putObj (w.heap.size+1) (.loop { rec .ready none with state:=.busy })) W3→
     (Instr.endRound (w.heap.size+1) jump).run P W3=.ok (.bool jump.isNone) (W3.putObj (w.heap.size+1) (.loop (rec (if jump.isNone then .ready else .done) jump)))∧
     W3.heap[w.heap.size+1]? = some (.loop { rec .ready none with state:=.busy })∧
     (W3.putObj (w.heap.size+1) (.loop (rec (if jump.isNone then .ready else .done) jump))).heap[w.heap.size+1]? = some (.loop (rec (if jump.isNone then .ready else .done) jump))∧
     (W3.putObj (w.heap.size+1) (.loop (rec (if jump.isNone then .ready else .done) jump))).heap[w.heap.size]? = some (.deferred (some [])):=fun jump W3 hk3=>by
    have hl3:=hk3.same _ _ (by omega) hl2 rfl
    have:=run_endRound (P:=P) jump hl3
    rw [hrec] at this ⊢
    exact ⟨this,by rw [hrec] at hl3;exact hl3,World.putObj_heap_same (Array.getElem?_eq_some_iff.1 hl3).1,(World.putObj_heap_other (by omega)).trans (hk3.same _ _ (Nat.le_refl _) hk2 rfl)⟩
   rintro e a3 W3 hp
   cases e with
   | normal=>
    obtain ⟨hk3,hkp3,hi3⟩:=hp
    obtain ⟨hr,hl3,hl4,hk4⟩:=fin none W3 hk3
    exact ⟨_,_,hr,rfl,⟨hI.putObj _ hi3 (by omega) hl3 rfl,hl4,hk4⟩,hKt (hKt hw2 hkp3) (hKb _ _ _ _ (by omega) hl3 rfl)⟩
   | _=>exact hp.elim
  ·rintro e W2 ⟨⟨v,rfl⟩,xs,hS,hi,hl,hk⟩
   exact ⟨none,_,by have:=run_endLoop (P:=P) hl (by rw [hrec];simp);rw [hrec] at this;exact this,hdone _ xs _ (Nat.le_refl _) hS (hI.putObj _ hi (by omega) hl rfl) ((World.putObj_heap_other (by omega)).trans hk)⟩
end Go
namespace Go.Proofs.YthjnojbeimchdaaGreat
open Go.RowKit Go.Shelf Kal
attribute [local go_sem] Oper.semAt_some
theorem RowR.keep2 {F:Nat→Prop} {W W':World} {v:Value} {n:Nat} {cs:List Value} (h:RowR W F v n cs) (hk:KeepF F W W'):RowR W' F v n cs:=by
 obtain ⟨a,c,rfl,h1,h2,h3⟩:=h
 refine ⟨a,c,rfl,h1,h2,h3.imp id ?_⟩
 rintro ⟨b,o,rfl,hF,hl,hc⟩
 refine ⟨b,o,rfl,hF,?_,fun i u hi=>(World.cell?_of_block (hk b hF hl)).trans (hc i u hi)⟩
 have h1:=hk b hF hl
 rw [Array.getElem?_eq_getElem hl] at h1
 exact (Array.getElem?_eq_some_iff.1 h1).1
theorem TermL.keep2 {W:World} {F:Nat→Prop} {v:Value} {L:List PV} {W':World} (h:TermL W F v L) (hk:KeepF F W W'):TermL W' F v L:=⟨h.row.keep2 hk,h.len,fun x hx=>(h.all x hx).keep hk⟩
theorem TermR.keep2 {W:World} {F:Nat→Prop} {v:Value} {t:List Per} {W':World} (h:TermR W F v t) (hk:KeepF F W W'):TermR W' F v t:=by
 obtain ⟨L,e,g⟩:=h;exact ⟨L,e,g.keep2 hk⟩
theorem MixL.keep2 {W:World} {F:Nat→Prop} {v:Value} {L:List (Value × List Per)} {W':World} (h:MixL W F v L) (hk:KeepF F W W'):MixL W' F v L:=⟨h.row.keep2 hk,h.len,fun x hx=>(h.all x hx).keep2 hk⟩
def CellB (W:World) (b:Nat):Prop:=∃ o:Obj,W.heap[b]? = some o∧o.isCells=true
theorem cellB_of {W:World} {b o:Nat} {u:Value} (h:W.cell? ⟨b,o,none⟩=some u):CellB W b:=by
 unfold World.cell? at h
 cases hb:W.heap[b]? with
 | none=>simp [hb] at h
 | some x=>
  simp only [hb] at h
  cases x with
  | cells c t f=>exact ⟨_,hb,rfl⟩
  | _=>simp at h
theorem Ints.cellB {W:World} {v:Value} {l:List Int} (h:Ints W v l) (hl:l≠[]) {k:Nat} (hk:v.ownBlock=some k):CellB W k:=by
 obtain ⟨⟨a,c,rfl,h1,h2,h3⟩,h4,h5⟩:=h
 rcases h3 with h3|⟨b,o,rfl,hc⟩
 ·exact absurd h3 hl
 ·simp [Value.ownBlock] at hk
  subst hk
  exact cellB_of (hc 0 (List.length_pos_iff.2 hl))
theorem PVok.cellB {W:World} {F:Nat→Prop} {x:PV} (h:PVok W F x):PVok W (CellB W) x:=
 ⟨h.is,h.fr,h.pe,fun e k hk=>h.is.hd.cellB e hk,fun e k hk=>h.is.cy.cellB e hk⟩
theorem TermL.cellB {W:World} {F:Nat→Prop} {v:Value} {L:List PV} (h:TermL W F v L):TermL W (CellB W) v L:=by
 refine ⟨?_,h.len,fun x hx=>(h.all x hx).cellB⟩
 obtain ⟨a,c,rfl,h1,h2,h3⟩:=h.row
 refine ⟨a,c,rfl,h1,h2,?_⟩
 by_cases hL:L.length=0
 ·exact .inl hL
 ·rcases h3 with h3|⟨b,o,rfl,hb,hl,hc⟩
  ·exact .inl h3
  ·exact .inr ⟨b,o,rfl,cellB_of (hc (0*4+0) _ (flat_get (by omega) rfl)),hl,hc⟩
theorem TermR.put {W:World} {F:Nat→Prop} {v:Value} {t:List Per} {l:Nat} {o o':Obj} (h:TermR W F v t) (hl:W.heap[l]? = some o) (ho:o.isCells=false):TermR (W.putObj l o') (CellB W) v t:=by
 obtain ⟨L,e,g⟩:=h
 refine ⟨L,e,g.cellB.keep2 fun b hb _=>World.putObj_heap_other ?_⟩
 obtain ⟨x,hx,hc⟩:=hb
 rintro rfl
 rw [hl] at hx;cases hx;rw [ho] at hc;cases hc
def tenc (y:Value × List Per):Array Value:=#[y.1]
def EyT (T:List (List Per)) (pre:List (Value × List Per)) (y:Value × List Per) (W:World):Prop:=(∃ r,T=pre.map Prod.snd ++ y.2 :: r)∧∃ F,TermR W F y.1 y.2
def FinT (T:List (List Per)) (xs:List (Value × List Per)):Prop:=xs.map Prod.snd=T
def IterT (g:Nat) (lb:Array Value) (T:List (List Per)) (w:World):Prop:=
 (∀ args w,(callFunc g args).run Tryz.prog w=.ok (.enter g args) w)∧∀ W,Below w.heap.size w W→SeqY Tryz.prog g lb tenc (KpB fun k=>k<w.heap.size) none (EyT T) (FinT T) W
set_option maxRecDepth 100000 in
theorem values_any (v:Value) (w:World) (hv:∃ a n c,v=.slice a n c) :
  Calls Tryz.prog 61 #[v] w fun e w'=>e=.returned (.func (.func 103) #[] #[.pointer (some ⟨w.heap.size,0,none⟩)])∧w'=w.alloc (.cells #[v] 26):=by
 obtain ⟨a,n,c,rfl⟩:=hv
 go_enter Tryz.func61,Tryz.ntmps61
 go_wp2
 go_ret
 exact ⟨rfl,rfl⟩
theorem take_succ_snd {L:List (Value × List Per)} {T:List (List Per)} {k:Nat} (hT:L.map Prod.snd=T) (hk:k<L.length):T=T.take k ++ (L.getD k default).2 :: T.drop (k+1)∧T.take (k+1)=T.take k ++ [(L.getD k default).2]:=by
 subst hT
 have h1:k<(L.map Prod.snd).length:=by simpa using hk
 have h2:(L.getD k default).2=(L.map Prod.snd)[k]:=by simp [List.getD_eq_getElem?_getD,hk]
 rw [h2]
 exact ⟨by rw [← List.drop_eq_getElem_cons h1,List.take_append_drop],List.take_succ_eq_append_getElem h1⟩
set_option maxRecDepth 100000 in
set_option maxHeartbeats 2000000 in
theorem values_seq (F:Nat→Prop) (v:Value) (T:List (List Per)) (b:Nat) (w:World) (hm:MixR w F v T) (hb:w.cell? ⟨b,0,none⟩=some v) :
  IterT 103 #[.pointer (some ⟨b,0,none⟩)] T w:=by
 refine ⟨enters_of Tryz.func103 (by kernel_rfl) rfl,fun W0 hW0=>?_⟩
 obtain ⟨L,hLT,hL⟩:=hm
 intro l' J W hW hJ hY hJ0
 have hlt:=World.block_lt_of_cell? w _ hb
 have hWw:Below w.heap.size w W:=hW0.trans (hW.mono hW0.size)
 have hb1:=Ext.cell hWw hb
 obtain ⟨a1,c1,rfl,hx1,hx2,_⟩:=hL.row.is
 have hl1:=hL.len
 have HL:Hid (∀ wr,KpB (fun k=>k<w.heap.size) W wr→MixL wr (fun b=>F b∧b<w.heap.size) (.slice a1 L.length c1) L):=Lib.hid fun wr h=>hL.lt.keep2 fun b hb _=>(h b hb.2).trans (hWw.block b hb.2)
 have HLT:=Lib.hid hLT
 have HJ:=Lib.hid hJ
 have HY:=Lib.hid hY
 clear hL hLT hJ hY hb
 refine callsIn_of_wp Tryz.func103 rfl trivial ?_ rfl
 simp only [Tryz.ntmps103,List.size_toArray,List.length_cons,List.length_nil,Nat.reduceAdd,Nat.reduceSub,Array.replicate_succ,Array.replicate_zero,List.push_toArray,List.append_toArray,List.nil_append,List.cons_append]
 gi_wp2_with fail
 gi_loopw [4,7] (fun _ i wr=>∃ (k:Nat) (pre:List (Value × List Per)),k≤L.length∧i=.int .i64 k∧Hid (pre.map Prod.snd=T.take k)∧J pre wr∧KpB (fun k=>k<w.heap.size) W wr) (fun _ i _=>L.length-(intOf i).toNat)
 case atStart=>exact ⟨0,[],by omega,rfl,Lib.hid rfl,hJ0,fun _ _=>rfl⟩
 case round=>
  obtain ⟨k,pre,hk,rfl,HP,hJw,hK⟩:=hrel
  have HK:=Lib.hid hK
  have HJW:=Lib.hid hJw
  have hml:=HL.out wr hK
  clear hK hJw
  by_cases hlt2:k<L.length
  ·have hlI:(k:Int)<L.length:=by omega
   obtain ⟨a',c',he,_,_,h3⟩:=hml.row.is
   injection he with e1 e2 e3
   subst e1;subst e3
   rcases h3 with h0|⟨b8,f8,rfl,hF,hb8,hcell⟩
   ·omega
   have e0:wr.cell? ⟨b8,f8+k,none⟩=some (L.getD k default).1:=hcell k _ (by rw [List.getElem?_map,List.getD_eq_getElem?_getD,List.getElem?_eq_getElem hlt2];rfl)
   have hyt:=hml.all _ (getD_mem' (d:=default) hlt2)
   obtain ⟨t1,t2⟩:=take_succ_snd HLT.out hlt2
   have T2:=Lib.hid t2
   generalize L.getD k default=y at *
   have hEy:EyT T pre y wr:=⟨⟨_,by rw [HP.out];exact t1⟩,_,hyt⟩
   obtain ⟨fn,tmps,assign,body,hyy,hR⟩:=HY.out pre y wr HJW.out hEy
   clear hcell hyt t1 t2 hEy hml
   unfold tenc at hyy
   gi_wp2
   refine ⟨rfl,hR.mono ?_⟩
   rintro e W' ⟨rfl,hJ',hk'⟩
   gi_wp2
   go_roundw
   case rel=>exact ⟨k+1,pre ++ [y],by omega,by go_num,Lib.hid (by rw [List.map_append,HP.out,T2.out];rfl),hJ',HK.out.trans hk'⟩
   case measure=>simp [intOf];omega
  ·obtain rfl:k=L.length:=by omega
   clear hml
   gi_wp2
   refine bodyPost_end (results_none rfl _ _ _) rfl ?_
   refine ⟨⟨_,rfl⟩,pre,?_,HJW.out⟩
   show _=T
   rw [HP.out,← HLT.out,List.take_of_length_le (by simp)]
end Go.Proofs.YthjnojbeimchdaaGreat
