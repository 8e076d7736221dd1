/- Walks: Same (package kalendsref04). -/
import Derived.Test.YtjilkhhokkncoaaGreatMWalkRx
import Derived.Test.YtjilkhhokkncoaaGreatMK15
set_option linter.unusedVariables false
set_option linter.unusedSimpArgs false
namespace Go.Proofs.YtjilkhhokkncoaaGreat
open Go.RowKit Go.Maps Kal
set_option maxRecDepth 100000 in
set_option maxHeartbeats 2000000 in
theorem RSame_ok (h1 c1 h2 c2:Value) (p1 p2 qa qb:Per) (w:World) (hp1:PerIs w h1 c1 p1) (hp2:PerIs w h2 c2 p2) (hv1:Valid p1) (hv2:Valid p2) (hqa:IsCanon qa p1.mem) (hqb:IsCanon qb p2.mem) :
  Calls Tryz.prog 37 #[perV h1 c1 p1.frm p1.period,perV h2 c2 p2.frm p2.period] w fun e w'=>e=.returned (.bool (sameB qa qb))∧Below w.heap.size w w':=by
 obtain ⟨a1,m1,a2,m2,rfl,rfl⟩:=hp1.inn.form
 obtain ⟨a3,m3,a4,m4,rfl,rfl⟩:=hp2.inn.form
 have hl1:∀ W,Below w.heap.size w W→PerIs W (.slice a1 p1.head.length m1) (.slice a2 p1.cycle.length m2) p1:=fun W hb=>hp1.ext hb
 have hl2:∀ W,Below w.heap.size w W→PerIs W (.slice a3 p2.head.length m3) (.slice a4 p2.cycle.length m4) p2:=fun W hb=>hp2.ext hb
 have HV1:=Lib.hid hv1
 have HV2:=Lib.hid hv2
 have HQA:=Lib.hid hqa
 have HQB:=Lib.hid hqb
 obtain ⟨sb,hsb⟩:∃ sb,sb=sameB qa qb:=⟨_,rfl⟩
 have HSB:Hid (decide (qa=qb)=sb):=Lib.hid (by
  rw [hsb]
  by_cases h:qa=qb
  ·rw [decide_eq_true h,(sameB_iff _ _).2 h]
  ·rw [decide_eq_false h,Bool.eq_false_iff.2 (fun g=>h ((sameB_iff _ _).1 g))])
 rw [← hsb]
 clear hp1 hp2 hv1 hv2 hqa hqb hsb
 go_enter Tryz.func37,Tryz.ntmps37
 go_upto_region 1 with (fail)
 refine wp_abs (F:=fun U=>Bxx U w.heap.size #[.slice a1 p1.head.length m1,.int .i64 p1.frm,.int .i64 p1.period,.slice a2 p1.cycle.length m2] 24∧Bxx U (w.heap.size+1) #[.slice a3 p2.head.length m3,.int .i64 p2.frm,.int .i64 p2.period,.slice a4 p2.cycle.length m4] 24∧w.heap.size+1<U.heap.size∧Below w.heap.size w U) ⟨by (repeat' (first|(refine Bxx.at ?_;simp;done)|refine Bxx.alloc ?_ _)),by (repeat' (first|(refine Bxx.at ?_;simp;done)|refine Bxx.alloc ?_ _)),by simp;try omega,by (repeat' (with_reducible first|assumption|apply Er|apply Ea|apply Ed|apply En|(refine Es ?_ (by first|(simp<;>omega)|omega) _)|refine Et ?_ (by assumption)))⟩ ?_
 rintro W1 ⟨hA,hB,hz1,hE⟩
 have A0:W1.cell? ⟨w.heap.size,0,none⟩=some (.slice a1 p1.head.length m1):=(hA.cells 0).1
 have A1:W1.cell? ⟨w.heap.size,1,none⟩=some (.int .i64 p1.frm):=(hA.cells 1).1
 have A2:W1.cell? ⟨w.heap.size,2,none⟩=some (.int .i64 p1.period):=(hA.cells 2).1
 have A3:W1.cell? ⟨w.heap.size,3,none⟩=some (.slice a2 p1.cycle.length m2):=(hA.cells 3).1
 go_upto_region 2 with (go_at_call 7;refine (RCanon_ok _ _ p1 qa _ (hl1 _ (by (repeat' (with_reducible first|assumption|apply Er|apply Ea|apply Ed|apply En|(refine Es ?_ (by first|(simp<;>omega)|omega) _)|refine Et ?_ (by assumption))))) HV1.out HQA.out).mono ?_;rintro e u1 ⟨x1,x2,rfl,ho1,hb1⟩;obtain ⟨a5,m5,a6,m6,rfl,rfl⟩:=ho1.form)
 generalize hu1:u1.heap.size=bA at *
 refine wp_abs (F:=fun U=>Bxx U bA #[.slice a5 qa.head.length m5,.int .i64 qa.frm,.int .i64 qa.period,.slice a6 qa.cycle.length m6] 24∧PerIs U (.slice a5 qa.head.length m5) (.slice a6 qa.cycle.length m6) qa∧Bxx U (w.heap.size+1) #[.slice a3 p2.head.length m3,.int .i64 p2.frm,.int .i64 p2.period,.slice a4 p2.cycle.length m4] 24∧Below w.heap.size w U)
  ⟨Bxx.at hu1.symm,ho1.is.ext (by (repeat' (with_reducible first|assumption|apply Er|apply Ea|apply Ed|apply En|(refine Es ?_ (by first|(simp<;>omega)|omega) _)|refine Et ?_ (by assumption)))),(hB.below hb1).alloc _,by (repeat' (with_reducible first|assumption|apply Er|apply Ea|apply Ed|apply En|(refine Es ?_ (by first|(simp<;>omega)|omega) _)|refine Et ?_ (by assumption)))⟩ ?_
 clear hA A0 A1 A2 A3 ho1 hb1 hB hu1 hE
 rintro W2 ⟨hqA,ho1,hB,hE⟩
 have B0:W2.cell? ⟨w.heap.size+1,0,none⟩=some (.slice a3 p2.head.length m3):=(hB.cells 0).1
 have B1:W2.cell? ⟨w.heap.size+1,1,none⟩=some (.int .i64 p2.frm):=(hB.cells 1).1
 have B2:W2.cell? ⟨w.heap.size+1,2,none⟩=some (.int .i64 p2.period):=(hB.cells 2).1
 have B3:W2.cell? ⟨w.heap.size+1,3,none⟩=some (.slice a4 p2.cycle.length m4):=(hB.cells 3).1
 go_upto_region 3 with (go_at_call 7;refine (RCanon_ok _ _ p2 qb _ (hl2 _ (by (repeat' (with_reducible first|assumption|apply Er|apply Ea|apply Ed|apply En|(refine Es ?_ (by first|(simp<;>omega)|omega) _)|refine Et ?_ (by assumption))))) HV2.out HQB.out).mono ?_;rintro e u2 ⟨x3,x4,rfl,ho2,hb2⟩;obtain ⟨a7,m7,a8,m8,rfl,rfl⟩:=ho2.form)
 generalize hu2:u2.heap.size=bB at *
 refine wp_abs (F:=fun U=>Bxx U bA #[.slice a5 qa.head.length m5,.int .i64 qa.frm,.int .i64 qa.period,.slice a6 qa.cycle.length m6] 24∧Bxx U bB #[.slice a7 qb.head.length m7,.int .i64 qb.frm,.int .i64 qb.period,.slice a8 qb.cycle.length m8] 24∧PerIs U (.slice a5 qa.head.length m5) (.slice a6 qa.cycle.length m6) qa∧PerIs U (.slice a7 qb.head.length m7) (.slice a8 qb.cycle.length m8) qb∧Below w.heap.size w U)
  ⟨(hqA.below hb2).alloc _,Bxx.at hu2.symm,ho1.ext (by (repeat' (with_reducible first|assumption|apply Er|apply Ea|apply Ed|apply En|(refine Es ?_ (by first|(simp<;>omega)|omega) _)|refine Et ?_ (by assumption)))),ho2.is.ext (by (repeat' (with_reducible first|assumption|apply Er|apply Ea|apply Ed|apply En|(refine Es ?_ (by first|(simp<;>omega)|omega) _)|refine Et ?_ (by assumption)))),by (repeat' (with_reducible first|assumption|apply Er|apply Ea|apply Ed|apply En|(refine Es ?_ (by first|(simp<;>omega)|omega) _)|refine Et ?_ (by assumption)))⟩ ?_
 clear hqA ho1 ho2 hb2 hB hu2 hE B0 B1 B2 B3
 rintro W3 ⟨hqA,hqB,hpa,hpb,hE⟩
 have HPA:=Lib.hid hpa
 have HPB:=Lib.hid hpb
 have A0:W3.cell? ⟨bA,0,none⟩=some (.slice a5 qa.head.length m5):=(hqA.cells 0).1
 have A1:W3.cell? ⟨bA,1,none⟩=some (.int .i64 qa.frm):=(hqA.cells 1).1
 have A2:W3.cell? ⟨bA,2,none⟩=some (.int .i64 qa.period):=(hqA.cells 2).1
 have A3:W3.cell? ⟨bA,3,none⟩=some (.slice a6 qa.cycle.length m6):=(hqA.cells 3).1
 have B0:W3.cell? ⟨bB,0,none⟩=some (.slice a7 qb.head.length m7):=(hqB.cells 0).1
 have B1:W3.cell? ⟨bB,1,none⟩=some (.int .i64 qb.frm):=(hqB.cells 1).1
 have B2:W3.cell? ⟨bB,2,none⟩=some (.int .i64 qb.period):=(hqB.cells 2).1
 have B3:W3.cell? ⟨bB,3,none⟩=some (.slice a8 qb.cycle.length m8):=(hqB.cells 3).1
 clear hqA hqB hpa hpb
 go_wp2_with (go_at_call 14;refine (Equal_any _ _ _ _ qa qb _ (HPA.out.ext (by (repeat' (with_reducible first|assumption|apply Er|apply Ea|apply Ed|apply En|(refine Es ?_ (by first|(simp<;>omega)|omega) _)|refine Et ?_ (by assumption))))) (HPB.out.ext (by (repeat' (with_reducible first|assumption|apply Er|apply Ea|apply Ed|apply En|(refine Es ?_ (by first|(simp<;>omega)|omega) _)|refine Et ?_ (by assumption)))))).mono ?_;rintro e u3 ⟨he,hb3⟩;rw [HSB.out] at he;subst he)
 go_ret
 exact ⟨rfl,by (repeat' (with_reducible first|assumption|apply Er|apply Ea|apply Ed|apply En|(refine Es ?_ (by first|(simp<;>omega)|omega) _)|refine Et ?_ (by assumption)))⟩
end Go.Proofs.YtjilkhhokkncoaaGreat
