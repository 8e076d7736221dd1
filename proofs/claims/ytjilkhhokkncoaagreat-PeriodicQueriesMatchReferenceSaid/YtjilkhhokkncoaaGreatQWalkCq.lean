/- Walks: Count, Next, Empty, Finite, Shift, Canon of sets that are not valid (package kalendsref04). -/
import Derived.Test.YtjilkhhokkncoaaGreatQWalkRx
import Derived.Test.YtjilkhhokkncoaaGreatQMathQ
import Derived.Test.YtjilkhhokkncoaaGreatQWalkNx
set_option linter.unusedVariables false
set_option linter.unusedSimpArgs false
namespace Go.Proofs.YtjilkhhokkncoaaGreat
open Go.RowKit Go.Maps Kal

set_option maxRecDepth 100000 in
set_option maxHeartbeats 2000000 in
theorem RCount_ok (h c : Value) (p : Per) (a b : Int) (w : World) (hp : PerIs w h c p) (hv : Valid p) (h0 : 0 ≤ a) (hab : a ≤ b) (hb : b ≤ 1099511627776) :
    Calls Tryz.prog 11 #[perV h c p.frm p.period, .int .i64 a, .int .i64 b] w fun e w' => e = .returned (.tuple #[.int .i64 (belowI p b - belowI p a), .int .i64 0]) ∧ Below w.heap.size w w' := by
  have hl : ∀ W, Below w.heap.size w W → PerIs W h c p := fun W hb => hp.ext hb
  have HVB := Lib.hid ((validB_iff p).2 hv)
  have f1 : p.frm ≤ 1125899906842624 := by have := hv.frm; omega
  have f2 : p.period ≤ 1125899906842624 := by have := hv.per; omega
  have HI1 : Hid (InI p.frm) := by have := hv.frm; have := hv.wf.frm; exact Lib.hid ⟨by omega, by omega⟩
  have HI2 : Hid (InI p.period) := by have := hv.per; have := hv.wf.per; exact Lib.hid ⟨by omega, by omega⟩
  have HV := Lib.hid hv
  have ba := belowI_bound HV.out.wf h0
  have bb := belowI_bound HV.out.wf (show 0 ≤ b by omega)
  have hw9 : IntKind.i64.wrap (belowI p b - belowI p a) = belowI p b - belowI p a := wrapI ⟨by omega, by omega⟩
  clear hp hv
  go_enter Tryz.func11, Tryz.ntmps11
  go_wp2_with (go_at_call 16; refine (RValid_any h c p _ (hl _ (by (repeat' (with_reducible first | assumption | exact Ext.refl _ | refine Ext.alloc ?_ _ | refine Ext.drew ?_ | refine Ext.drewN ?_ _ | (refine Ext.setCell ?_ (by first | (simp; done) | (simp; omega) | omega) _) | refine Ext.trans ?_ (by assumption))))) HI1.out HI2.out).mono ?_; rintro e w1 ⟨he, hb1⟩; rw [HVB.out] at he; subst he; obtain ⟨hc1, hf1⟩ := bcell hb1; (try simp only [World.size_alloc, World.size_drew, size_drewN, World.size_setCell] at hc1 hf1); have hz1 := hb1.size; (try simp only [World.size_alloc, World.size_drew, size_drewN, World.size_setCell] at hz1); have hz1' : w.heap.size < w1.heap.size := by omega)
  have hcA : w1.cell? ⟨w.heap.size, 0, none⟩ = some h ∧ w1.cell? ⟨w.heap.size, 1, none⟩ = some (.int .i64 p.frm) ∧ w1.cell? ⟨w.heap.size, 2, none⟩ = some (.int .i64 p.period) ∧ w1.cell? ⟨w.heap.size, 3, none⟩ = some c := by
    refine ⟨?_, ?_, ?_, ?_⟩ <;> (rw [hc1 _ _ (by omega)]; simp)
  have hW1 : Below w.heap.size w w1 := by (repeat' (with_reducible first | assumption | exact Ext.refl _ | refine Ext.alloc ?_ _ | refine Ext.drew ?_ | refine Ext.drewN ?_ _ | (refine Ext.setCell ?_ (by first | (simp; done) | (simp; omega) | omega) _) | refine Ext.trans ?_ (by assumption)))
  obtain ⟨hA0, hA1, hA2, hA3⟩ := hcA
  clear hc1 hf1 hb1
  refine wp_region_facts (w0 := w1) [0, 1, 2, 3, 4, 5, 6] [7, 8] (fun v => ⟨#[perV h c p.frm p.period, Value.int IntKind.i64 a, Value.int IntKind.i64 b, Value.pointer (some { block := w.heap.size, off := 0 }), undef, undef, Value.int IntKind.i64 0, Value.int IntKind.i64 0, Value.agg #[h, Value.int IntKind.i64 p.frm, Value.int IntKind.i64 p.period, c], Value.bool true, Value.bool false, Value.bool false, Value.int IntKind.i64 a, Value.bool (decide (a < 0)), Value.bool (decide (a < 0)), Value.bool (decide (a < 0)), Value.int IntKind.i64 b, Value.int IntKind.i64 a, Value.bool (decide (b < a)), Value.bool (decide (a < 0) || decide (b < a)), Value.bool (decide (a < 0) || decide (b < a)), Value.int IntKind.i64 b, Value.bool (decide (1099511627776 < b)), Value.bool (decide (a < 0) || decide (b < a) || decide (1099511627776 < b)), v 0, v 1, v 2, v 3, v 4, v 5, v 6], []⟩) (fun _ => undef)
    (fun i v lo hi W => match i with
      | 0 => v 0 = perV h c p.frm p.period
      | 1 => v 1 = .int .i64 b
      | 2 => v 2 = .int .i64 (belowI p b)
      | 3 => v 3 = perV h c p.frm p.period
      | 4 => v 4 = .int .i64 a
      | 5 => v 5 = .int .i64 (belowI p a)
      | 6 => v 6 = .int .i64 (belowI p b - belowI p a)
      | _ => True)
    (fun W => Below w.heap.size w W ∧ W.cell? ⟨w.heap.size, 0, none⟩ = some h ∧ W.cell? ⟨w.heap.size, 1, none⟩ = some (.int .i64 p.frm) ∧ W.cell? ⟨w.heap.size, 2, none⟩ = some (.int .i64 p.period) ∧ W.cell? ⟨w.heap.size, 3, none⟩ = some c) rfl (by kernel_rfl) (by decide) rfl ?stab ?loc (fun W hb => ⟨by (repeat' (with_reducible first | assumption | exact Ext.refl _ | refine Ext.alloc ?_ _ | refine Ext.drew ?_ | refine Ext.drewN ?_ _ | (refine Ext.setCell ?_ (by first | (simp; done) | (simp; omega) | omega) _) | refine Ext.trans ?_ (by assumption))), cell_upto hA0 hb, cell_upto hA1 hb, cell_upto hA2 hb, cell_upto hA3 hb⟩) ?steps ?fin
  case stab =>
    rintro (_ | _ | _ | _ | _ | _ | _ | i) v lo hi W W' h hb
    · exact h
    · exact h
    · exact h
    · exact h
    · exact h
    · exact h
    · exact h
    · trivial
  case loc =>
    rintro (_ | _ | _ | _ | _ | _ | _ | i) v v' lo lo' hi hi' W hag h
    · exact (hag 0 (.inl rfl)).1 ▸ h
    · exact (hag 1 (.inl rfl)).1 ▸ h
    · exact (hag 2 (.inl rfl)).1 ▸ h
    · exact (hag 3 (.inl rfl)).1 ▸ h
    · exact (hag 4 (.inl rfl)).1 ▸ h
    · exact (hag 5 (.inl rfl)).1 ▸ h
    · exact (hag 6 (.inl rfl)).1 ▸ h
    · trivial
  case steps =>
    refine StepsF.cons rfl ?_ (StepsF.cons rfl ?_ (StepsF.cons rfl ?_ (StepsF.cons rfl ?_ (StepsF.cons rfl ?_ (StepsF.cons rfl ?_ (StepsF.cons rfl ?_ StepsF.nil))))))
    · rintro v lo hi W hb ⟨hE1, g0, g1, g2, g3⟩ hd K hK
      clear hd
      dsimp only
      go_wp2_with fail
      exact act_cast (hK (perV h c p.frm p.period) W (Below.refl _ _) rfl) (by simp)
    · rintro v lo hi W hb ⟨hE1, g0, g1, g2, g3⟩ hd K hK
      clear hd
      dsimp only
      go_wp2_with fail
      exact act_cast (hK (.int .i64 b) W (Below.refl _ _) rfl) (by simp)
    · rintro v lo hi W hb ⟨hE1, g0, g1, g2, g3⟩ hd K hK
      have e0 : v 0 = perV h c p.frm p.period := (hd 0 (Region.dep (by kernel_rfl))).2.2
      have e1 : v 1 = .int .i64 b := (hd 1 (Region.dep (by kernel_rfl))).2.2
      clear hd
      dsimp only
      (try simp only [e0, e1])
      go_wp2_with (go_at_call 48; refine (Rbelow_any h c p _ _ (hl _ (by (repeat' (with_reducible first | assumption | exact Ext.refl _ | refine Ext.alloc ?_ _ | refine Ext.drew ?_ | refine Ext.drewN ?_ _ | (refine Ext.setCell ?_ (by first | (simp; done) | (simp; omega) | omega) _) | refine Ext.trans ?_ (by assumption))))) HV.out.wf f1 f2 (by omega) (by omega)).mono ?_; rintro e w3 ⟨rfl, hb3⟩)
      exact act_cast (hK (.int .i64 (belowI p b)) w3 hb3 rfl) (by simp [e0, e1])
    · rintro v lo hi W hb ⟨hE1, g0, g1, g2, g3⟩ hd K hK
      clear hd
      dsimp only
      go_wp2_with fail
      exact act_cast (hK (perV h c p.frm p.period) W (Below.refl _ _) rfl) (by simp)
    · rintro v lo hi W hb ⟨hE1, g0, g1, g2, g3⟩ hd K hK
      clear hd
      dsimp only
      go_wp2_with fail
      exact act_cast (hK (.int .i64 a) W (Below.refl _ _) rfl) (by simp)
    · rintro v lo hi W hb ⟨hE1, g0, g1, g2, g3⟩ hd K hK
      have e3 : v 3 = perV h c p.frm p.period := (hd 3 (Region.dep (by kernel_rfl))).2.2
      have e4 : v 4 = .int .i64 a := (hd 4 (Region.dep (by kernel_rfl))).2.2
      clear hd
      dsimp only
      (try simp only [e3, e4])
      go_wp2_with (go_at_call 48; refine (Rbelow_any h c p _ _ (hl _ (by (repeat' (with_reducible first | assumption | exact Ext.refl _ | refine Ext.alloc ?_ _ | refine Ext.drew ?_ | refine Ext.drewN ?_ _ | (refine Ext.setCell ?_ (by first | (simp; done) | (simp; omega) | omega) _) | refine Ext.trans ?_ (by assumption))))) HV.out.wf f1 f2 (by omega) (by omega)).mono ?_; rintro e w3 ⟨rfl, hb3⟩)
      exact act_cast (hK (.int .i64 (belowI p a)) w3 hb3 rfl) (by simp [e3, e4])
    · rintro v lo hi W hb ⟨hE1, g0, g1, g2, g3⟩ hd K hK
      have e2 : v 2 = .int .i64 (belowI p b) := (hd 2 (Region.dep (by kernel_rfl))).2.2
      have e5 : v 5 = .int .i64 (belowI p a) := (hd 5 (Region.dep (by kernel_rfl))).2.2
      clear hd
      dsimp only
      (try simp only [e2, e5])
      go_wp2_with fail
      exact act_cast (hK (.int .i64 (belowI p b - belowI p a)) W (Below.refl _ _) rfl) (by simp [e2, e5])
  case fin =>
    rintro v lo hi W hb ⟨hE1, g0, g1, g2, g3⟩ hf hap
    show wpList _ _ _ [_, _] _ _
    have e6 : v 6 = .int .i64 (belowI p b - belowI p a) := (hf 6 rfl).2.2.2
    clear hf hap
    (try dsimp only)
    rw [e6]
    go_wp2_with fail
    go_ret2
    exact ⟨rfl, hE1⟩

set_option maxRecDepth 100000 in
set_option maxHeartbeats 1000000 in
theorem RCount_bad (h c : Value) (p : Per) (a b : Int) (w : World) (hp : PerIs w h c p) (hf : InI p.frm) (ht : InI p.period) (hbad : okCount p a b = false) :
    Calls Tryz.prog 11 #[perV h c p.frm p.period, .int .i64 a, .int .i64 b] w fun e w' => e = .returned (.tuple #[.int .i64 0, .int .i64 1]) ∧ Below w.heap.size w w' := by
  have hl : ∀ W, Below w.heap.size w W → PerIs W h c p := fun W hb => hp.ext hb
  have HB := Lib.hid hbad
  have HI1 := Lib.hid hf
  have HI2 := Lib.hid ht
  clear hp hbad hf ht
  go_enter Tryz.func11, Tryz.ntmps11
  go_wp2_with (go_at_call 16; refine (RValid_any h c p _ (hl _ (by (repeat' (with_reducible first | assumption | exact Ext.refl _ | refine Ext.alloc ?_ _ | refine Ext.drew ?_ | refine Ext.drewN ?_ _ | (refine Ext.setCell ?_ (by first | (simp; done) | (simp; omega) | omega) _) | refine Ext.trans ?_ (by assumption))))) HI1.out HI2.out).mono ?_; rintro e w1 ⟨rfl, hb1⟩; obtain ⟨hc1, hf1⟩ := bcell hb1)
  all_goals first
    | (go_ret2; exact ⟨rfl, by (repeat' (with_reducible first | assumption | exact Ext.refl _ | refine Ext.alloc ?_ _ | refine Ext.drew ?_ | refine Ext.drewN ?_ _ | (refine Ext.setCell ?_ (by first | (simp; done) | (simp; omega) | omega) _) | refine Ext.trans ?_ (by assumption)))⟩)
    | (exfalso; have := HB.out; simp [okCount, *] at this <;> omega)

set_option maxRecDepth 100000 in
set_option maxHeartbeats 2000000 in
theorem RNext_ok (h c : Value) (p : Per) (day : Int) (w : World) (hp : PerIs w h c p) (hv : Valid p) (h0 : -9223372036854775808 ≤ day) (hd1 : day ≤ 1099511627776) :
    Calls Tryz.prog 13 #[perV h c p.frm p.period, .int .i64 day] w (NextRes p.mem (max day 0) w) := by
  have hl : ∀ W, Below w.heap.size w W → PerIs W h c p := fun W hb => hp.ext hb
  have HVB := Lib.hid ((validB_iff p).2 hv)
  have f1 : p.frm ≤ 1125899906842624 := by have := hv.frm; omega
  have f2 : p.period ≤ 1125899906842624 := by have := hv.per; omega
  have HI1 : Hid (InI p.frm) := by have := hv.frm; have := hv.wf.frm; exact Lib.hid ⟨by omega, by omega⟩
  have HI2 : Hid (InI p.period) := by have := hv.per; have := hv.wf.per; exact Lib.hid ⟨by omega, by omega⟩
  have HV := Lib.hid hv
  have g1 := hv.frm
  have g2 := hv.per
  have g3 := hv.wf.frm
  have g4 := hv.wf.per
  obtain ⟨a1, n1, a2, n2, rfl, rfl⟩ := hp.inn.form
  obtain ⟨lo, hlo⟩ : ∃ lo, lo = max day 0 := ⟨_, rfl⟩
  have hlb : 0 ≤ lo ∧ lo ≤ 1099511627776 := by omega
  rw [← hlo]
  have HLO := Lib.hid hlo.symm
  clear hp hv hlo
  go_enter Tryz.func13, Tryz.ntmps13
  go_upto_region 4 with (go_at_call 16; refine (RValid_any _ _ p _ (hl _ (by (repeat' (with_reducible first | assumption | exact Ext.refl _ | refine Ext.alloc ?_ _ | refine Ext.drew ?_ | refine Ext.drewN ?_ _ | (refine Ext.setCell ?_ (by first | (simp; done) | (simp; omega) | omega) _) | refine Ext.trans ?_ (by assumption))))) HI1.out HI2.out).mono ?_; rintro e w1 ⟨he, hb1⟩; rw [HVB.out] at he; subst he; obtain ⟨hc1, hf1⟩ := bcell hb1; (try simp only [World.size_alloc, World.size_drew, size_drewN, World.size_setCell] at hc1 hf1); have hz1 := hb1.size; (try simp only [World.size_alloc, World.size_drew, size_drewN, World.size_setCell] at hz1); have hz1' : w.heap.size < w1.heap.size := by omega)
  rw [HLO.out]
  go_upto_region 5 with (go_at_call 50; refine (RMembers_any _ _ p lo _ _ (hl _ (by (repeat' (with_reducible first | assumption | exact Ext.refl _ | refine Ext.alloc ?_ _ | refine Ext.drew ?_ | refine Ext.drewN ?_ _ | (refine Ext.setCell ?_ (by first | (simp; done) | (simp; omega) | omega) _) | refine Ext.trans ?_ (by assumption))))) HV.out.wf f1 f2 hlb.1 (by omega) (by omega) (by omega)).mono ?_; rintro e w2 ⟨v, rfl, ho2, hb2⟩)
  rw [show max lo p.frm + p.period = max p.frm lo + p.period from by omega] at ho2
  have hE : Below w.heap.size w w2 := by (repeat' (with_reducible first | assumption | exact Ext.refl _ | refine Ext.alloc ?_ _ | refine Ext.drew ?_ | refine Ext.drewN ?_ _ | (refine Ext.setCell ?_ (by first | (simp; done) | (simp; omega) | omega) _) | refine Ext.trans ?_ (by assumption)))
  have HE := Lib.hid hE
  obtain ⟨l, hl9⟩ : ∃ l, l = sel p.mem lo (max p.frm lo + p.period) := ⟨_, rfl⟩
  rw [← hl9] at ho2
  have HL9 := Lib.hid hl9
  have hint := ho2.ints
  clear hl9 hc1 hf1 hb1 hb2 hE
  obtain ⟨⟨a9, c9, rfl, _, _, h38⟩, _, hrg⟩ := hint
  rcases l with _ | ⟨y, l⟩
  · have hnone : ∀ x, lo ≤ x → ¬ p.mem x := sel_none hlb.1 g4 HV.out.wf.pfrom HL9.out.symm
    have HNO := Lib.hid hnone
    clear hnone h38 hrg ho2
    go_wp2_with fail
    go_ret2
    exact ⟨0, false, rfl, .inr ⟨rfl, rfl, HNO.out⟩, HE.out⟩
  · have hh := sel_head hlb.1 HL9.out.symm
    have HH := Lib.hid hh
    rcases h38 with h38 | ⟨b8, f8, rfl, hcell⟩
    · simp at h38
    have hcl := hcell 0 (by simp)
    simp only [List.getD_cons_zero, Nat.add_zero] at hcl
    have hlz : (((y :: l).length : Int) == 0) = false := by rw [beq_eq_false_iff_ne]; simp; omega
    have hlp : 0 < (y :: l).length := by simp
    have hlq : (0 : Int) < ((y :: l).length : Int) := by have := hlp; omega
    generalize (y :: l).length = len at *
    clear hh hcell hrg ho2
    go_wp2_with fail
    go_ret2
    exact ⟨y, true, rfl, .inl ⟨rfl, HH.out.1, HH.out.2.2.1, HH.out.2.2.2⟩, HE.out⟩

set_option maxRecDepth 100000 in
set_option maxHeartbeats 1000000 in
theorem RNext_none (h c : Value) (p : Per) (day : Int) (w : World) (hp : PerIs w h c p) (hf : InI p.frm) (ht : InI p.period) (hbad : validB p = false ∨ 1099511627776 < day) :
    Calls Tryz.prog 13 #[perV h c p.frm p.period, .int .i64 day] w fun e w' => e = .returned (.tuple #[.int .i64 0, .bool false]) ∧ Below w.heap.size w w' := by
  have hl : ∀ W, Below w.heap.size w W → PerIs W h c p := fun W hb => hp.ext hb
  have HI1 := Lib.hid hf
  have HI2 := Lib.hid ht
  clear hp hf ht
  cases hvb : validB p with
  | false =>
    have HVB := Lib.hid hvb
    clear hvb hbad
    go_enter Tryz.func13, Tryz.ntmps13
    go_wp2_with (go_at_call 16; refine (RValid_any h c p _ (hl _ (by (repeat' (with_reducible first | assumption | exact Ext.refl _ | refine Ext.alloc ?_ _ | refine Ext.drew ?_ | refine Ext.drewN ?_ _ | (refine Ext.setCell ?_ (by first | (simp; done) | (simp; omega) | omega) _) | refine Ext.trans ?_ (by assumption))))) HI1.out HI2.out).mono ?_; rintro e w1 ⟨he, hb1⟩; rw [HVB.out] at he; subst he)
    go_ret2
    exact ⟨rfl, by (repeat' (with_reducible first | assumption | exact Ext.refl _ | refine Ext.alloc ?_ _ | refine Ext.drew ?_ | refine Ext.drewN ?_ _ | (refine Ext.setCell ?_ (by first | (simp; done) | (simp; omega) | omega) _) | refine Ext.trans ?_ (by assumption)))⟩
  | true =>
    have HVB := Lib.hid hvb
    have hday : 1099511627776 < day := by
      rcases hbad with h | h
      · rw [hvb] at h; cases h
      · exact h
    clear hvb hbad
    go_enter Tryz.func13, Tryz.ntmps13
    go_wp2_with (go_at_call 16; refine (RValid_any h c p _ (hl _ (by (repeat' (with_reducible first | assumption | exact Ext.refl _ | refine Ext.alloc ?_ _ | refine Ext.drew ?_ | refine Ext.drewN ?_ _ | (refine Ext.setCell ?_ (by first | (simp; done) | (simp; omega) | omega) _) | refine Ext.trans ?_ (by assumption))))) HI1.out HI2.out).mono ?_; rintro e w1 ⟨he, hb1⟩; rw [HVB.out] at he; subst he)
    go_ret2
    exact ⟨rfl, by (repeat' (with_reducible first | assumption | exact Ext.refl _ | refine Ext.alloc ?_ _ | refine Ext.drew ?_ | refine Ext.drewN ?_ _ | (refine Ext.setCell ?_ (by first | (simp; done) | (simp; omega) | omega) _) | refine Ext.trans ?_ (by assumption)))⟩

set_option maxRecDepth 100000 in
set_option maxHeartbeats 1000000 in
theorem RFinite_any (h c : Value) (p : Per) (w : World) (hp : PerIs w h c p) (hf : InI p.frm) (ht : InI p.period) :
    Calls Tryz.prog 22 #[perV h c p.frm p.period] w fun e w' => e = .returned (.bool (validB p && decide (p.cycle = []))) ∧ Below w.heap.size w w' := by
  have hl : ∀ W, Below w.heap.size w W → PerIs W h c p := fun W hb => hp.ext hb
  have HI1 := Lib.hid hf
  have HI2 := Lib.hid ht
  obtain ⟨_, ⟨ca, ccap, rfl, _, _, _⟩, _, _⟩ := hp
  go_enter Tryz.func22, Tryz.ntmps22
  go_wp2_with (go_at_call 16; refine (RValid_any _ _ p _ (hl _ (by (repeat' (with_reducible first | assumption | exact Ext.refl _ | refine Ext.alloc ?_ _ | refine Ext.drew ?_ | refine Ext.drewN ?_ _ | (refine Ext.setCell ?_ (by first | (simp; done) | (simp; omega) | omega) _) | refine Ext.trans ?_ (by assumption))))) HI1.out HI2.out).mono ?_; rintro e w1 ⟨rfl, hb1⟩; obtain ⟨hc1, hf1⟩ := bcell hb1)
  all_goals (go_ret; refine ⟨ret_bool ?_, by (repeat' (with_reducible first | assumption | exact Ext.refl _ | refine Ext.alloc ?_ _ | refine Ext.drew ?_ | refine Ext.drewN ?_ _ | (refine Ext.setCell ?_ (by first | (simp; done) | (simp; omega) | omega) _) | refine Ext.trans ?_ (by assumption)))⟩; simp [len_eq0, *])

theorem emptyB_len (p : Per) (hv : validB p = true) : emptyB p = ((p.head.length : Int) + (p.cycle.length : Int) == 0) := by
  unfold emptyB
  rw [hv, Bool.true_and, Bool.eq_iff_iff]
  simp only [Bool.and_eq_true, decide_eq_true_eq, beq_iff_eq]
  constructor
  · rintro ⟨h1, h2⟩; rw [h1, h2]; rfl
  · intro h
    exact ⟨List.eq_nil_of_length_eq_zero (by omega), List.eq_nil_of_length_eq_zero (by omega)⟩

set_option maxRecDepth 100000 in
set_option maxHeartbeats 1000000 in
theorem REmpty_any (h c : Value) (p : Per) (w : World) (hp : PerIs w h c p) (hf : InI p.frm) (ht : InI p.period) :
    Calls Tryz.prog 20 #[perV h c p.frm p.period] w fun e w' => e = .returned (.bool (emptyB p)) ∧ Below w.heap.size w w' := by
  have hl : ∀ W, Below w.heap.size w W → PerIs W h c p := fun W hb => hp.ext hb
  have HI1 := Lib.hid hf
  have HI2 := Lib.hid ht
  obtain ⟨⟨ha, hcap, rfl, _, _, _⟩, _, _⟩ := hp.hd
  obtain ⟨⟨ca, ccap, rfl, _, _, _⟩, _, _⟩ := hp.cy
  have hl1 := hp.hd.len
  have hl2 := hp.cy.len
  clear hp hf ht
  cases hvb : validB p with
  | false =>
    have HVB := Lib.hid hvb
    have HEM : Hid (emptyB p = false) := Lib.hid (by unfold emptyB; rw [hvb]; rfl)
    clear hvb
    go_enter Tryz.func20, Tryz.ntmps20
    go_wp2_with (go_at_call 16; refine (RValid_any _ _ p _ (hl _ (by (repeat' (with_reducible first | assumption | exact Ext.refl _ | refine Ext.alloc ?_ _ | refine Ext.drew ?_ | refine Ext.drewN ?_ _ | (refine Ext.setCell ?_ (by first | (simp; done) | (simp; omega) | omega) _) | refine Ext.trans ?_ (by assumption))))) HI1.out HI2.out).mono ?_; rintro e w1 ⟨he, hb1⟩; rw [HVB.out] at he; subst he; obtain ⟨hc1, hf1⟩ := bcell hb1)
    go_ret
    exact ⟨ret_bool HEM.out.symm, by (repeat' (with_reducible first | assumption | exact Ext.refl _ | refine Ext.alloc ?_ _ | refine Ext.drew ?_ | refine Ext.drewN ?_ _ | (refine Ext.setCell ?_ (by first | (simp; done) | (simp; omega) | omega) _) | refine Ext.trans ?_ (by assumption)))⟩
  | true =>
    have HVB := Lib.hid hvb
    have HEM := Lib.hid (emptyB_len p hvb)
    have hv := ((validB_iff p).1 hvb).len
    clear hvb
    go_enter Tryz.func20, Tryz.ntmps20
    go_wp2_with (go_at_call 16; refine (RValid_any _ _ p _ (hl _ (by (repeat' (with_reducible first | assumption | exact Ext.refl _ | refine Ext.alloc ?_ _ | refine Ext.drew ?_ | refine Ext.drewN ?_ _ | (refine Ext.setCell ?_ (by first | (simp; done) | (simp; omega) | omega) _) | refine Ext.trans ?_ (by assumption))))) HI1.out HI2.out).mono ?_; rintro e w1 ⟨he, hb1⟩; rw [HVB.out] at he; subst he; obtain ⟨hc1, hf1⟩ := bcell hb1)
    go_ret
    exact ⟨ret_bool HEM.out.symm, by (repeat' (with_reducible first | assumption | exact Ext.refl _ | refine Ext.alloc ?_ _ | refine Ext.drew ?_ | refine Ext.drewN ?_ _ | (refine Ext.setCell ?_ (by first | (simp; done) | (simp; omega) | omega) _) | refine Ext.trans ?_ (by assumption)))⟩

set_option maxRecDepth 100000 in
set_option maxHeartbeats 1000000 in
theorem RCanon_bad (h c : Value) (p : Per) (w : World) (hp : PerIs w h c p) (hf : InI p.frm) (ht : InI p.period) (hv : validB p = false) :
    Calls Tryz.prog 7 #[perV h c p.frm p.period] w (PerErr 1 w) := by
  have hl : ∀ W, Below w.heap.size w W → PerIs W h c p := fun W hb => hp.ext hb
  have HI1 := Lib.hid hf
  have HI2 := Lib.hid ht
  have HVB := Lib.hid hv
  clear hp hf ht hv
  go_enter Tryz.func7, Tryz.ntmps7
  go_wp2_with (go_at_call 16; refine (RValid_any h c p _ (hl _ (by (repeat' (with_reducible first | assumption | exact Ext.refl _ | refine Ext.alloc ?_ _ | refine Ext.drew ?_ | refine Ext.drewN ?_ _ | (refine Ext.setCell ?_ (by first | (simp; done) | (simp; omega) | omega) _) | refine Ext.trans ?_ (by assumption))))) HI1.out HI2.out).mono ?_; rintro e w1 ⟨he, hb1⟩; rw [HVB.out] at he; subst he; obtain ⟨hc1, hf1⟩ := bcell hb1; (try simp only [World.size_alloc, World.size_drew, size_drewN, World.size_setCell] at hc1 hf1); have hz1 := hb1.size; (try simp only [World.size_alloc, World.size_drew, size_drewN, World.size_setCell] at hz1); have hz1' : w.heap.size + 1 < w1.heap.size := by omega)
  refine bodyPost_ret (v := .tuple #[perV (.slice none 0 0) (.slice none 0 0) 0 0, .int .i64 1]) ?_ rfl ⟨rfl, by (repeat' (with_reducible first | assumption | exact Ext.refl _ | refine Ext.alloc ?_ _ | refine Ext.drew ?_ | refine Ext.drewN ?_ _ | (refine Ext.setCell ?_ (by first | (simp; done) | (simp; omega) | omega) _) | refine Ext.trans ?_ (by assumption)))⟩
  simp [results, Tryz.results7, go_sem, *]

set_option maxRecDepth 100000 in
set_option maxHeartbeats 1000000 in
theorem RShift_bad (h c : Value) (p : Per) (b : Int) (w : World) (hp : PerIs w h c p) (hf : InI p.frm) (ht : InI p.period) (hbad : (validB p && decide (-1099511627776 ≤ b) && decide (b ≤ 1099511627776)) = false) :
    Calls Tryz.prog 9 #[perV h c p.frm p.period, .int .i64 b] w (PerErr 1 w) := by
  have hl : ∀ W, Below w.heap.size w W → PerIs W h c p := fun W hb => hp.ext hb
  have HB := Lib.hid hbad
  have HI1 := Lib.hid hf
  have HI2 := Lib.hid ht
  clear hp hbad hf ht
  go_enter Tryz.func9, Tryz.ntmps9
  go_wp2_with (go_at_call 16; refine (RValid_any h c p _ (hl _ (by (repeat' (with_reducible first | assumption | exact Ext.refl _ | refine Ext.alloc ?_ _ | refine Ext.drew ?_ | refine Ext.drewN ?_ _ | (refine Ext.setCell ?_ (by first | (simp; done) | (simp; omega) | omega) _) | refine Ext.trans ?_ (by assumption))))) HI1.out HI2.out).mono ?_; rintro e w1 ⟨rfl, hb1⟩; obtain ⟨hc1, hf1⟩ := bcell hb1; (try simp only [World.size_alloc, World.size_drew, size_drewN, World.size_setCell] at hc1 hf1); have hz1 := hb1.size; (try simp only [World.size_alloc, World.size_drew, size_drewN, World.size_setCell] at hz1); have hz1' : w.heap.size + 1 < w1.heap.size := by omega)
  all_goals first
    | (exfalso; have hB := HB.out; simp only [Bool.and_eq_false_iff, decide_eq_false_iff_not] at hB; rcases hB with ((hB | hB) | hB) <;> first | omega | (simp_all; done))
    | (refine bodyPost_ret (v := .tuple #[perV (.slice none 0 0) (.slice none 0 0) 0 0, .int .i64 1]) ?_ rfl ⟨rfl, by (repeat' (with_reducible first | assumption | exact Ext.refl _ | refine Ext.alloc ?_ _ | refine Ext.drew ?_ | refine Ext.drewN ?_ _ | (refine Ext.setCell ?_ (by first | (simp; done) | (simp; omega) | omega) _) | refine Ext.trans ?_ (by assumption)))⟩; simp [results, Tryz.results9, go_sem, *]; done)

end Go.Proofs.YtjilkhhokkncoaaGreat
