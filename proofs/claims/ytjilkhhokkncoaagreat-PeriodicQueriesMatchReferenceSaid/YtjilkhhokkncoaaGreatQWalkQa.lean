/- Contracts of both implementations together, for any set, valid or not: Canon, Shift, Count, Next. -/
import Derived.Test.YtjilkhhokkncoaaGreatQWalkCr
import Derived.Test.YtjilkhhokkncoaaGreatQWalkBad
set_option linter.unusedVariables false
set_option linter.unusedSimpArgs false
namespace Go.Proofs.YtjilkhhokkncoaaGreat
open Go.RowKit Go.Maps Kal

/-- a set and an error number -/
def PerAns (q : Per) (k : Int) (w : World) (e : Ending) (w' : World) : Prop :=
  ∃ h c, e = .returned (.tuple #[perV h c q.frm q.period, .int .i64 k]) ∧ PerIs w' h c q ∧ Below w.heap.size w w'
def zeroP : Per := ⟨[], 0, 0, []⟩
theorem PerOk.ans {q : Per} {w w' : World} {e : Ending} (h : PerOk q w e w') : PerAns q 0 w e w' := by
  obtain ⟨h', c', he, ho, hb⟩ := h
  exact ⟨h', c', he, ho.is, hb⟩
theorem PerErr.ans {k : Int} {w w' : World} {e : Ending} (h : PerErr k w e w') : PerAns zeroP k w e w' := ⟨_, _, h.1, ⟨Ints.nil _, Ints.nil _⟩, h.2⟩

theorem canon_two (p : Per) (hf : InI p.frm) (ht : InI p.period) : ∃ (q : Per) (k : Int), ∀ (h c : Value) (w : World), PerIs w h c p →
    (Calls Tryz.prog 6 #[perV h c p.frm p.period] w (PerAns q k w)) ∧ (Calls Tryz.prog 7 #[perV h c p.frm p.period] w (PerAns q k w)) := by
  cases hv : validB p with
  | true =>
    have hV := (validB_iff p).1 hv
    obtain ⟨q, hq⟩ := exists_canon hV.wf
    exact ⟨q, 0, fun h c w hp => ⟨(Canon_ok h c p q w hp hV hq).mono fun e w' g => g.ans, (RCanon_ok h c p q w hp hV hq).mono fun e w' g => by first | exact g.ans | (obtain ⟨h', c', he, ho, hb⟩ := g; exact ⟨h', c', he, ho.is, hb⟩)⟩⟩
  | false => exact ⟨zeroP, 1, fun h c w hp => ⟨(Canon_bad h c p w hp hv).mono fun e w' g => g.ans, (RCanon_bad h c p w hp hf ht hv).mono fun e w' g => g.ans⟩⟩

set_option maxRecDepth 100000 in
set_option maxHeartbeats 1000000 in
theorem Shift_arg (h c : Value) (p : Per) (b : Int) (w : World) (hp : PerIs w h c p) (hv : Valid p) (hbad : b < -1099511627776 ∨ 1099511627776 < b) :
    Calls Tryz.prog 8 #[perV h c p.frm p.period, .int .i64 b] w (PerErr 1 w) := by
  have hl : ∀ W, Below w.heap.size w W → PerIs W h c p := fun W hb => hp.ext hb
  have HV := Lib.hid ((validB_iff p).2 hv)
  clear hp hv
  rcases hbad with hlo | hhi
  all_goals
    go_enter Tryz.func8, Tryz.ntmps8
    go_wp2_with (go_at_call 15; refine (valid_any h c p _ (hl _ (by (repeat' (with_reducible first | assumption | exact Ext.refl _ | refine Ext.alloc ?_ _ | refine Ext.drew ?_ | refine Ext.drewN ?_ _ | (refine Ext.setCell ?_ (by first | (simp; done) | (simp; omega) | omega) _) | refine Ext.trans ?_ (by assumption)))))).mono ?_; rintro e w1 ⟨he, hb1⟩; rw [HV.out] at he; subst he; obtain ⟨hc1, hf1⟩ := bcell hb1; (try simp only [World.size_alloc, World.size_drew, size_drewN, World.size_setCell] at hc1 hf1); have hz1 := hb1.size; (try simp only [World.size_alloc, World.size_drew, size_drewN, World.size_setCell] at hz1); have hz1' : w.heap.size + 1 < w1.heap.size := by omega)
    refine bodyPost_ret (v := .tuple #[perV (.slice none 0 0) (.slice none 0 0) 0 0, .int .i64 1]) ?_ rfl ⟨rfl, by (repeat' (with_reducible first | assumption | exact Ext.refl _ | refine Ext.alloc ?_ _ | refine Ext.drew ?_ | refine Ext.drewN ?_ _ | (refine Ext.setCell ?_ (by first | (simp; done) | (simp; omega) | omega) _) | refine Ext.trans ?_ (by assumption)))⟩
    simp [results, Tryz.results8, go_sem, *]

set_option maxRecDepth 100000 in
set_option maxHeartbeats 1000000 in
theorem next_arg (h c : Value) (p : Per) (day : Int) (w : World) (hp : PerIs w h c p) (hv : Valid p) (hd : 1099511627776 < day) :
    Calls Tryz.prog 12 #[perV h c p.frm p.period, .int .i64 day] w fun e w' => e = .returned (.tuple #[.int .i64 0, .bool false]) ∧ Below w.heap.size w w' := by
  have hl : ∀ W, Below w.heap.size w W → PerIs W h c p := fun W hb => hp.ext hb
  have HV := Lib.hid ((validB_iff p).2 hv)
  clear hp hv
  go_enter Tryz.func12, Tryz.ntmps12
  go_wp2_with (go_at_call 15; refine (valid_any h c p _ (hl _ (by (repeat' (with_reducible first | assumption | exact Ext.refl _ | refine Ext.alloc ?_ _ | refine Ext.drew ?_ | refine Ext.drewN ?_ _ | (refine Ext.setCell ?_ (by first | (simp; done) | (simp; omega) | omega) _) | refine Ext.trans ?_ (by assumption)))))).mono ?_; rintro e w1 ⟨he, hb1⟩; rw [HV.out] at he; subst he; obtain ⟨hc1, hf1⟩ := bcell hb1; (try simp only [World.size_alloc, World.size_drew, size_drewN, World.size_setCell] at hc1 hf1); have hz1 := hb1.size; (try simp only [World.size_alloc, World.size_drew, size_drewN, World.size_setCell] at hz1); have hz1' : w.heap.size + 2 < w1.heap.size := by omega)
  refine bodyPost_ret (v := .tuple #[.int .i64 0, .bool false]) ?_ rfl ⟨rfl, by (repeat' (with_reducible first | assumption | exact Ext.refl _ | refine Ext.alloc ?_ _ | refine Ext.drew ?_ | refine Ext.drewN ?_ _ | (refine Ext.setCell ?_ (by first | (simp; done) | (simp; omega) | omega) _) | refine Ext.trans ?_ (by assumption)))⟩
  simp [results, Tryz.results12, go_sem, *]

theorem ShiftRes.ans {q : Per} {w w' : World} {e : Ending} (h : ShiftRes q w e w') : PerAns (if q.frm ≤ 1099511627776 then q else zeroP) (if q.frm ≤ 1099511627776 then 0 else 2) w e w' := by
  by_cases hq : q.frm ≤ 1099511627776
  · rw [if_pos hq, if_pos hq]; exact (h.1 hq).ans
  · rw [if_neg hq, if_neg hq]; exact (h.2 (by omega)).ans

theorem shift_two (p : Per) (b : Int) (hf : InI p.frm) (ht : InI p.period) : ∃ (q : Per) (k : Int), ∀ (h c : Value) (w : World), PerIs w h c p →
    (Calls Tryz.prog 8 #[perV h c p.frm p.period, .int .i64 b] w (PerAns q k w)) ∧ (Calls Tryz.prog 9 #[perV h c p.frm p.period, .int .i64 b] w (PerAns q k w)) := by
  cases hv : validB p with
  | true =>
    have hV := (validB_iff p).1 hv
    by_cases hb : -1099511627776 ≤ b ∧ b ≤ 1099511627776
    · obtain ⟨q, hq⟩ := exists_canon (shiftP_ok hV.wf b).1
      have hq' : IsCanon q (shiftS p b) := hq.congr (shiftP_ok hV.wf b).2
      exact ⟨_, _, fun h c w hp => ⟨(Shift_ok h c p q b w hp hV hb.1 hb.2 hq').mono fun e w' g => g.ans, (RShift_ok h c p q b w hp hV hb.1 hb.2 hq').mono fun e w' g => g.ans⟩⟩
    · have hbad : (validB p && decide (-1099511627776 ≤ b) && decide (b ≤ 1099511627776)) = false := by
        rw [hv, Bool.true_and, ← Bool.decide_and]; exact decide_eq_false hb
      exact ⟨zeroP, 1, fun h c w hp => ⟨(Shift_arg h c p b w hp hV (by omega)).mono fun e w' g => g.ans, (RShift_bad h c p b w hp hf ht hbad).mono fun e w' g => g.ans⟩⟩
  | false =>
    have hbad : (validB p && decide (-1099511627776 ≤ b) && decide (b ≤ 1099511627776)) = false := by rw [hv]; rfl
    exact ⟨zeroP, 1, fun h c w hp => ⟨(Shift_bad h c p b w hp hv).mono fun e w' g => g.ans, (RShift_bad h c p b w hp hf ht hbad).mono fun e w' g => g.ans⟩⟩

theorem count_two (p : Per) (a b : Int) (hf : InI p.frm) (ht : InI p.period) : ∃ (n k : Int), ∀ (h c : Value) (w : World), PerIs w h c p →
    (Calls Tryz.prog 10 #[perV h c p.frm p.period, .int .i64 a, .int .i64 b] w fun e w' => e = .returned (.tuple #[.int .i64 n, .int .i64 k]) ∧ Below w.heap.size w w') ∧
    (Calls Tryz.prog 11 #[perV h c p.frm p.period, .int .i64 a, .int .i64 b] w fun e w' => e = .returned (.tuple #[.int .i64 n, .int .i64 k]) ∧ Below w.heap.size w w') := by
  cases hok : okCount p a b with
  | true =>
    have h1 := hok
    unfold okCount at h1
    simp only [Bool.and_eq_true, decide_eq_true_eq] at h1
    have hV := (validB_iff p).1 h1.1.1.1
    exact ⟨_, _, fun h c w hp => ⟨count_ok h c p a b w hp hV h1.1.1.2 h1.1.2 h1.2, RCount_ok h c p a b w hp hV h1.1.1.2 h1.1.2 h1.2⟩⟩
  | false => exact ⟨_, _, fun h c w hp => ⟨count_bad h c p a b w hp hok, RCount_bad h c p a b w hp hf ht hok⟩⟩

theorem nextIs_ex (S : Int → Prop) (d : Int) (h0 : 0 ≤ d) : ∃ n b, NextIs S d n b := by
  by_cases h : ∃ x, d ≤ x ∧ S x
  · obtain ⟨x, h1, h2⟩ := h
    have key : ∀ k : Nat, ∀ x, (x - d).toNat = k → d ≤ x → S x → ∃ n, d ≤ n ∧ S n ∧ ∀ y, d ≤ y → y < n → ¬ S y := by
      intro k
      induction k using Nat.strongRecOn with
      | _ k ih =>
        intro x hk a1 a3
        by_cases hy : ∃ y, d ≤ y ∧ y < x ∧ S y
        · obtain ⟨y, b1, b2, b3⟩ := hy
          exact ih _ (by omega) y rfl b1 b3
        · exact ⟨x, a1, a3, fun y c1 c2 c3 => hy ⟨y, c1, c2, c3⟩⟩
    obtain ⟨n, g1, g3, g4⟩ := key _ x rfl h1 h2
    exact ⟨n, true, .inl ⟨rfl, g1, g3, g4⟩⟩
  · exact ⟨0, false, .inr ⟨rfl, rfl, fun x hx hS => h ⟨x, hx, hS⟩⟩⟩

theorem next_two (p : Per) (day : Int) (hf : InI p.frm) (ht : InI p.period) (hd : InI day) : ∃ (n : Int) (b : Bool), ∀ (h c : Value) (w : World), PerIs w h c p →
    (Calls Tryz.prog 12 #[perV h c p.frm p.period, .int .i64 day] w fun e w' => e = .returned (.tuple #[.int .i64 n, .bool b]) ∧ Below w.heap.size w w') ∧
    (Calls Tryz.prog 13 #[perV h c p.frm p.period, .int .i64 day] w fun e w' => e = .returned (.tuple #[.int .i64 n, .bool b]) ∧ Below w.heap.size w w') := by
  cases hv : validB p with
  | true =>
    have hV := (validB_iff p).1 hv
    by_cases hb : day ≤ 1099511627776
    · obtain ⟨n, b, hn⟩ := nextIs_ex p.mem (max day 0) (by omega)
      refine ⟨n, b, fun h c w hp => ⟨(next_ok h c p day w hp hV hd.1 hb).mono ?_, (RNext_ok h c p day w hp hV hd.1 hb).mono ?_⟩⟩
      all_goals
        rintro e w' ⟨m, b', rfl, hm, hbel⟩
        obtain ⟨rfl, rfl⟩ := hn.unique hm
        exact ⟨rfl, hbel⟩
    · exact ⟨0, false, fun h c w hp => ⟨next_arg h c p day w hp hV (by omega), RNext_none h c p day w hp hf ht (.inr (by omega))⟩⟩
  | false => exact ⟨0, false, fun h c w hp => ⟨next_bad h c p day w hp hv, RNext_none h c p day w hp hf ht (.inl hv)⟩⟩

end Go.Proofs.YtjilkhhokkncoaaGreat
