/- Walks: rising, in, Valid, Has (package kalendsref04). -/
import Derived.Test.YtjilkhhokkncoaaGreatQK5
import Derived.Deep.QuietTactic
import Derived.BigQuiet
set_option linter.unusedVariables false
set_option linter.unusedSimpArgs false
namespace Go.Proofs.YtjilkhhokkncoaaGreat
open Go.RowKit Go.Maps Kal

set_option maxHeartbeats 2000000 in
theorem Rin_any (v : Value) (l : List Int) (x : Int) (w : World) (hv : Ints w v l) :
    Calls Tryz.prog 55 #[v, .int .i64 x] w fun e w' => e = .returned (.bool (decide (x ∈ l))) ∧ w = w' := by
  obtain ⟨⟨a, c, rfl, hlc, hc, hcells⟩, hlen, hb⟩ := hv
  go_enter Tryz.func55, Tryz.ntmps55
  go_wp2_with fail
  go_loop [5] (fun i => ∃ k : Nat, k ≤ l.length ∧ i = .int .i64 k ∧ x ∉ l.take k) (fun i => l.length - (intOf i).toNat)
  case atStart => exact ⟨0, by omega, rfl, by simp⟩
  case round =>
    obtain ⟨k, hk, rfl, hno⟩ := hrel
    have HNO := Lib.hid hno
    clear hno
    by_cases hlt : k < l.length
    · rcases hcells with h | ⟨b, o, rfl, hcell⟩
      · rw [h] at hlt; simp at hlt
      have hcl := hcell k hlt
      have hlI : (k : Int) < l.length := by omega
      have hts : l.take (k + 1) = l.take k ++ [l.getD k 0] := by rw [List.take_succ_eq_append_getElem hlt, List.getD_eq_getElem?_getD, List.getElem?_eq_getElem hlt]; rfl
      have HTS := Lib.hid hts
      have HM := Lib.hid (getD_mem hlt)
      clear hts hcell
      generalize l.getD k 0 = y at *
      by_cases hyx : y = x
      · have hyb : (y == x) = true := by simp [hyx]
        have HYX := Lib.hid hyx
        clear hyx
        go_wp2_with fail
        go_ret
        exact ⟨ret_bool (by rw [decide_eq_true]; rw [← HYX.out]; exact HM.out), rfl⟩
      · have hyb : (y == x) = false := by simp [hyx]
        have HYX := Lib.hid hyx
        clear hyx
        go_wp2_with fail
        go_round
        case rel => exact ⟨k + 1, by omega, by go_num, by
          rw [HTS.out, List.mem_append]
          rintro (h | h)
          · exact HNO.out h
          · rw [List.mem_singleton] at h; exact HYX.out h.symm⟩
        case measure => simp [intOf]; omega
    · obtain rfl : k = l.length := by omega
      go_wp2_with fail
      go_ret
      exact ⟨ret_bool (by rw [decide_eq_false]; have h := HNO.out; rwa [List.take_length] at h), rfl⟩

set_option maxHeartbeats 2000000 in
theorem Rrising_any (v : Value) (l : List Int) (lim : Int) (w : World) (hv : Ints w v l) :
    Calls Tryz.prog 53 #[v, .int .i64 lim] w fun e w' => e = .returned (.bool (risingB (-1) lim l)) ∧ ∃ n, w' = w.drewN n := by
  obtain ⟨⟨a, c, rfl, hlc, hc, hcells⟩, hlen, hb⟩ := hv
  go_enter Tryz.func53, Tryz.ntmps53
  go_wp2_with fail
  go_loopw [5] (fun i wr => ∃ (k : Nat) (pv : Int), k ≤ l.length ∧ i = .int .i64 k ∧ ((k = 0 ∧ pv = -1) ∨ (1 ≤ k ∧ pv = l.getD (k - 1) 0 ∧ 0 ≤ pv)) ∧ risingB (-1) lim l = risingB pv lim (l.drop k) ∧ ∃ n, wr = w.drewN n) (fun i _ => l.length - (intOf i).toNat)
  case atStart => exact ⟨0, -1, by omega, rfl, .inl ⟨rfl, rfl⟩, by simp, 0, rfl⟩
  case round =>
    obtain ⟨k, pv, hk, rfl, hpv, hr, n, rfl⟩ := hrel
    have HR := Lib.hid hr
    clear hr
    by_cases hlt : k < l.length
    · rcases hcells with h | ⟨b, o, rfl, hcell⟩
      · rw [h] at hlt; simp at hlt
      have hcl := hcell k hlt
      have hlI : (k : Int) < l.length := by omega
      have hdr : risingB pv lim (l.drop k) = if l.getD k 0 ≤ pv ∨ lim ≤ l.getD k 0 then false else risingB (l.getD k 0) lim (l.drop (k + 1)) := by rw [drop_cons hlt, risingB]
      rw [hdr] at HR
      clear hdr
      obtain ⟨x, hx⟩ : ∃ x, x = l.getD k 0 := ⟨_, rfl⟩
      rw [← hx] at hcl HR
      have HX := Lib.hid hx
      clear hx
      have hend : ∀ q : Bool, (x ≤ pv ∨ lim ≤ x ↔ q = true) → risingB (-1) lim l = if q then false else risingB x lim (l.drop (k + 1)) := fun q h => by
        rw [HR.out]
        cases q <;> simp at h <;> simp [h]
      have HEND := Lib.hid hend
      clear hend
      rcases hpv with ⟨hk0, hp0⟩ | ⟨hk1, hpe, hp0⟩
      · have hkz : ¬ (0 : Int) < k := by omega
        have hkd : decide ((0 : Int) < (k : Int)) = false := by simp [hk0]
        have hkn : decide (0 < k) = false := by simp [hk0]
        have hkm : ¬ 0 < k := by omega
        have HK0 := Lib.hid hk0
        have HP0 := Lib.hid hp0
        clear hcell hk0 hp0
        by_cases h1 : x < 0
        · have d1 : decide (x < 0) = true := by simp [h1]
          go_wp2_with fail
          go_quiet (fail)
          go_wp2_with fail
          go_ret
          refine ⟨ret_bool ?_, _, World.drewN_drewN _ _ _⟩
          rw [HEND.out true (by have := HP0.out; simp; omega)]; rfl
        · have d1 : decide (x < 0) = false := by simp; omega
          by_cases h2 : lim ≤ x
          · have d2 : decide (lim ≤ x) = true := by simp [h2]
            go_wp2_with fail
            go_quiet (fail)
            go_wp2_with fail
            go_ret
            refine ⟨ret_bool ?_, _, World.drewN_drewN _ _ _⟩
            rw [HEND.out true (by simp [h2])]; rfl
          · have d2 : decide (lim ≤ x) = false := by simp; omega
            go_wp2_with fail
            go_quiet (fail)
            go_wp2_with fail
            go_roundw
            case rel => exact ⟨k + 1, x, by omega, by go_num, .inr ⟨by omega, HX.out, by omega⟩, by rw [HEND.out false (by have := HP0.out; simp; omega)]; rfl, _, rfl⟩
            case measure => simp [intOf]; omega
      · have hcl2 := hcell (k - 1) (by omega)
        have hkz : (0 : Int) < k := by omega
        have hkd : decide ((0 : Int) < (k : Int)) = true := by simp; omega
        rw [← hpe] at hcl2
        have HPE := Lib.hid hpe
        clear hcell hpe
        by_cases h1 : x < 0
        · have d1 : decide (x < 0) = true := by simp [h1]
          go_wp2_with fail
          go_quiet (fail)
          go_wp2_with fail
          go_ret
          refine ⟨ret_bool ?_, _, World.drewN_drewN _ _ _⟩
          rw [HEND.out true (by simp; omega)]; rfl
        · have d1 : decide (x < 0) = false := by simp; omega
          by_cases h2 : lim ≤ x
          · have d2 : decide (lim ≤ x) = true := by simp [h2]
            go_wp2_with fail
            go_quiet (fail)
            go_wp2_with fail
            go_ret
            refine ⟨ret_bool ?_, _, World.drewN_drewN _ _ _⟩
            rw [HEND.out true (by simp [h2])]; rfl
          · have d2 : decide (lim ≤ x) = false := by simp; omega
            obtain ⟨k', hk'⟩ : ∃ k', k = k' + 1 := ⟨k - 1, by omega⟩
            subst hk'
            rw [show k' + 1 - 1 = k' from by omega] at hcl2
            have hs1 : (((k' + 1 : Nat) : Int) - 1) = (k' : Int) := by omega
            by_cases h3 : x ≤ pv
            · have d3 : decide (x ≤ pv) = true := by simp [h3]
              go_wp2_with fail
              go_quiet (fail)
              go_wp2_with fail
              go_ret
              refine ⟨ret_bool ?_, _, World.drewN_drewN _ _ _⟩
              rw [HEND.out true (by simp [h3])]; rfl
            · have d3 : decide (x ≤ pv) = false := by simp; omega
              go_wp2_with fail
              go_quiet (fail)
              go_wp2_with fail
              go_roundw
              case rel => exact ⟨k' + 1 + 1, x, by omega, by go_num, .inr ⟨by omega, HX.out, by omega⟩, by rw [HEND.out false (by simp; omega)]; rfl, _, rfl⟩
              case measure => simp [intOf]; omega
    · obtain rfl : k = l.length := by omega
      go_wp2_with fail
      go_ret
      exact ⟨ret_bool (by rw [HR.out, List.drop_length]; rfl), n, rfl⟩

theorem valid_no {head cycle : List Int} {frm period : Int} (h : frm < 0 ∨ 1099511627776 < frm ∨ period < 1 ∨ 1099511627776 < period ∨ 1048576 < (head.length : Int) + cycle.length) : validB ⟨head, frm, period, cycle⟩ = false := by
  unfold validB
  rcases h with h | h | h | h | h
  · rw [decide_eq_false (show ¬ 0 ≤ frm by omega)]; rfl
  · rw [decide_eq_false (show ¬ frm ≤ 1099511627776 by omega)]; simp
  · rw [decide_eq_false (show ¬ 1 ≤ period by omega)]; simp
  · rw [decide_eq_false (show ¬ period ≤ 1099511627776 by omega)]; simp
  · rw [decide_eq_false (show ¬ (head.length : Int) + cycle.length ≤ 1048576 by omega)]; simp
theorem valid_yes {head cycle : List Int} {frm period : Int} (h : 0 ≤ frm ∧ frm ≤ 1099511627776 ∧ 1 ≤ period ∧ period ≤ 1099511627776 ∧ (head.length : Int) + cycle.length ≤ 1048576) : validB ⟨head, frm, period, cycle⟩ = (risingB (-1) frm head && risingB (-1) period cycle) := by
  unfold validB
  rw [decide_eq_true h.1, decide_eq_true h.2.1, decide_eq_true h.2.2.1, decide_eq_true h.2.2.2.1, decide_eq_true h.2.2.2.2]; simp

set_option maxRecDepth 100000 in
set_option maxHeartbeats 2000000 in
theorem RValid_any (h c : Value) (p : Per) (w : World) (hp : PerIs w h c p) (hf : InI p.frm) (ht : InI p.period) :
    Calls Tryz.prog 16 #[perV h c p.frm p.period] w fun e w' => e = .returned (.bool (validB p)) ∧ Below w.heap.size w w' := by
  unfold InI at hf ht
  have hh' : ∀ W, Below w.heap.size w W → Ints W h p.head := fun W hb => hp.hd.ext hb
  have hc' : ∀ W, Below w.heap.size w W → Ints W c p.cycle := fun W hb => hp.cy.ext hb
  have hl1 := hp.hd.len
  have hl2 := hp.cy.len
  obtain ⟨a1, c1, a2, c2, rfl, rfl⟩ := hp.inn.form
  obtain ⟨head, frm, period, cycle⟩ := p
  dsimp only at *
  obtain ⟨r1, hr1⟩ : ∃ r1, r1 = risingB (-1) frm head := ⟨_, rfl⟩
  obtain ⟨r2, hr2⟩ : ∃ r2, r2 = risingB (-1) period cycle := ⟨_, rfl⟩
  have HR1 := Lib.hid hr1.symm
  have HR2 := Lib.hid hr2.symm
  clear hp hr1 hr2
  go_enter Tryz.func16, Tryz.ntmps16
  go_wp2_with (go_at_call 53; first | ((with_reducible refine (Rrising_any (.slice a1 head.length c1) head frm _ (hh' _ (by (repeat' (with_reducible first | assumption | exact Ext.refl _ | refine Ext.alloc ?_ _ | refine Ext.drew ?_ | refine Ext.drewN ?_ _ | (refine Ext.setCell ?_ (by first | (simp; done) | (simp; omega) | omega) _) | refine Ext.trans ?_ (by assumption)))))).mono ?_); rintro e w1 ⟨he, n1, rfl⟩; rw [HR1.out] at he; subst he) | ((with_reducible refine (Rrising_any (.slice a2 cycle.length c2) cycle period _ (hc' _ (by (repeat' (with_reducible first | assumption | exact Ext.refl _ | refine Ext.alloc ?_ _ | refine Ext.drew ?_ | refine Ext.drewN ?_ _ | (refine Ext.setCell ?_ (by first | (simp; done) | (simp; omega) | omega) _) | refine Ext.trans ?_ (by assumption)))))).mono ?_); rintro e w2 ⟨he, n2, rfl⟩; rw [HR2.out] at he; subst he))
  all_goals go_ret
  all_goals first
    | exact ⟨ret_bool (valid_no (by omega)).symm, by (repeat' (with_reducible first | assumption | exact Ext.refl _ | refine Ext.alloc ?_ _ | refine Ext.drew ?_ | refine Ext.drewN ?_ _ | (refine Ext.setCell ?_ (by first | (simp; done) | (simp; omega) | omega) _) | refine Ext.trans ?_ (by assumption)))⟩
    | (refine ⟨ret_bool ?_, by (repeat' (with_reducible first | assumption | exact Ext.refl _ | refine Ext.alloc ?_ _ | refine Ext.drew ?_ | refine Ext.drewN ?_ _ | (refine Ext.setCell ?_ (by first | (simp; done) | (simp; omega) | omega) _) | refine Ext.trans ?_ (by assumption)))⟩; rw [valid_yes (by omega), HR1.out, HR2.out]; first | rfl | simp [*])

set_option maxRecDepth 100000 in
set_option maxHeartbeats 2000000 in
theorem RHas_any (h c : Value) (p : Per) (n : Int) (w : World) (hp : PerIs w h c p) (hf : InI p.frm) (ht : InI p.period) (hn : InI n) :
    Calls Tryz.prog 18 #[perV h c p.frm p.period, .int .i64 n] w fun e w' => e = .returned (.bool (validB p && decide (0 ≤ n) && memB p n)) ∧ Below w.heap.size w w' := by
  have hl : ∀ W, Below w.heap.size w W → PerIs W h c p := fun W hb => hp.ext hb
  have hf0 := hf
  have ht0 := ht
  unfold InI at hn hf ht
  obtain ⟨a1, c1, a2, c2, rfl, rfl⟩ := hp.inn.form
  have H1 : ∀ W, Below w.heap.size w W → Ints W (.slice a1 p.head.length c1) p.head := fun W hb => hp.hd.ext hb
  have H2 : ∀ W, Below w.heap.size w W → Ints W (.slice a2 p.cycle.length c2) p.cycle := fun W hb => hp.cy.ext hb
  have HF0 := Lib.hid hf0
  have HT0 := Lib.hid ht0
  clear hp hf0 ht0
  by_cases hv : validB p = true
  · have HV := Lib.hid hv
    have hfp := ((validB_iff p).1 hv).wf.frm
    have hpp := ((validB_iff p).1 hv).wf.per
    have HW := Lib.hid ((validB_iff p).1 hv)
    clear hv
    by_cases h0 : 0 ≤ n
    · by_cases hlt : n < p.frm
      · have hm : memB p n = decide (n ∈ p.head) := by unfold memB; rw [if_pos hlt]
        have HM : Hid ((validB p && decide (0 ≤ n) && memB p n) = decide (n ∈ p.head)) := Lib.hid (by rw [HV.out, hm]; simp [h0])
        clear hm
        go_enter Tryz.func18, Tryz.ntmps18
        go_wp2_with (first | (go_at_call 16; refine (RValid_any (.slice a1 p.head.length c1) (.slice a2 p.cycle.length c2) p _ (hl _ (by (repeat' (with_reducible first | assumption | exact Ext.refl _ | refine Ext.alloc ?_ _ | refine Ext.drew ?_ | refine Ext.drewN ?_ _ | (refine Ext.setCell ?_ (by first | (simp; done) | (simp; omega) | omega) _) | refine Ext.trans ?_ (by assumption))))) HF0.out HT0.out).mono ?_; rintro e w1 ⟨he, hb1⟩; rw [HV.out] at he; subst he; obtain ⟨hc1, hf1⟩ := bcell hb1; (try simp only [World.size_alloc, World.size_drew, size_drewN, World.size_setCell] at hc1 hf1); have hz1 : w.heap.size < w1.heap.size := (by have h7 := hb1.size; simp at h7; omega)) | (go_at_call 55; refine (Rin_any (.slice a1 p.head.length c1) p.head n _ (H1 _ (by (repeat' (with_reducible first | assumption | exact Ext.refl _ | refine Ext.alloc ?_ _ | refine Ext.drew ?_ | refine Ext.drewN ?_ _ | (refine Ext.setCell ?_ (by first | (simp; done) | (simp; omega) | omega) _) | refine Ext.trans ?_ (by assumption)))))).mono ?_; rintro e w2 ⟨rfl, rfl⟩))
        go_ret
        exact ⟨ret_bool HM.out.symm, by (repeat' (with_reducible first | assumption | exact Ext.refl _ | refine Ext.alloc ?_ _ | refine Ext.drew ?_ | refine Ext.drewN ?_ _ | (refine Ext.setCell ?_ (by first | (simp; done) | (simp; omega) | omega) _) | refine Ext.trans ?_ (by assumption)))⟩
      · have hm : memB p n = decide ((n - p.frm) % p.period ∈ p.cycle) := by unfold memB; rw [if_neg hlt]
        have HM : Hid ((validB p && decide (0 ≤ n) && memB p n) = decide ((n - p.frm) % p.period ∈ p.cycle)) := Lib.hid (by rw [HV.out, hm]; simp [h0])
        have hsub : IntKind.i64.wrap (n - p.frm) = n - p.frm := IntWalk.i64_in _ ⟨by omega, by omega⟩
        have htm : (n - p.frm).tmod p.period = (n - p.frm) % p.period := Int.tmod_eq_emod_of_nonneg (by omega)
        have HSUB := Lib.hid hsub
        have HTM := Lib.hid htm
        clear hm hsub htm
        go_enter Tryz.func18, Tryz.ntmps18
        go_upto_region 5 with (go_at_call 16; refine (RValid_any (.slice a1 p.head.length c1) (.slice a2 p.cycle.length c2) p _ (hl _ (by (repeat' (with_reducible first | assumption | exact Ext.refl _ | refine Ext.alloc ?_ _ | refine Ext.drew ?_ | refine Ext.drewN ?_ _ | (refine Ext.setCell ?_ (by first | (simp; done) | (simp; omega) | omega) _) | refine Ext.trans ?_ (by assumption))))) HF0.out HT0.out).mono ?_; rintro e w1 ⟨he, hb1⟩; rw [HV.out] at he; subst he; obtain ⟨hc1, hf1⟩ := bcell hb1; (try simp only [World.size_alloc, World.size_drew, size_drewN, World.size_setCell] at hc1 hf1); have hz1 : w.heap.size < w1.heap.size := (by have h7 := hb1.size; simp at h7; omega))
        have hge : p.frm ≤ n := by omega
        have hpos : 0 < p.period := by omega
        obtain ⟨hn1, hn2⟩ := hn
        obtain ⟨ht1, ht2⟩ := ht
        clear hlt hf
        have hne : ¬ p.period = 0 := by omega
        have htm := HTM.out
        go_quiet ((go_at_call 55; (first | exact quiet_same (Rin_any (.slice a2 p.cycle.length c2) p.cycle _ _ (H2 _ (by (repeat' (with_reducible first | assumption | exact Ext.refl _ | refine Ext.alloc ?_ _ | refine Ext.drew ?_ | refine Ext.drewN ?_ _ | (refine Ext.setCell ?_ (by first | (simp; done) | (simp; omega) | omega) _) | refine Ext.trans ?_ (by assumption)))))) | exact quiet_add_left (Rin_any (.slice a2 p.cycle.length c2) p.cycle _ _ (H2 _ (by (repeat' (with_reducible first | assumption | exact Ext.refl _ | refine Ext.alloc ?_ _ | refine Ext.drew ?_ | refine Ext.drewN ?_ _ | (refine Ext.setCell ?_ (by first | (simp; done) | (simp; omega) | omega) _) | refine Ext.trans ?_ (by assumption)))))))))
        go_wp2_with fail
        go_ret
        exact ⟨ret_bool HM.out.symm, by (repeat' (with_reducible first | assumption | exact Ext.refl _ | refine Ext.alloc ?_ _ | refine Ext.drew ?_ | refine Ext.drewN ?_ _ | (refine Ext.setCell ?_ (by first | (simp; done) | (simp; omega) | omega) _) | refine Ext.trans ?_ (by assumption)))⟩
    · have h0' : decide (0 ≤ n) = false := by simpa using h0
      have hlt : n < 0 := by omega
      go_enter Tryz.func18, Tryz.ntmps18
      go_wp2_with (go_at_call 16; refine (RValid_any (.slice a1 p.head.length c1) (.slice a2 p.cycle.length c2) p _ (hl _ (by (repeat' (with_reducible first | assumption | exact Ext.refl _ | refine Ext.alloc ?_ _ | refine Ext.drew ?_ | refine Ext.drewN ?_ _ | (refine Ext.setCell ?_ (by first | (simp; done) | (simp; omega) | omega) _) | refine Ext.trans ?_ (by assumption))))) HF0.out HT0.out).mono ?_; rintro e w1 ⟨he, hb1⟩; rw [HV.out] at he; subst he)
      go_ret
      exact ⟨ret_bool (by simp [h0']), by (repeat' (with_reducible first | assumption | exact Ext.refl _ | refine Ext.alloc ?_ _ | refine Ext.drew ?_ | refine Ext.drewN ?_ _ | (refine Ext.setCell ?_ (by first | (simp; done) | (simp; omega) | omega) _) | refine Ext.trans ?_ (by assumption)))⟩
  · have hv' : validB p = false := by simpa using hv
    have HV := Lib.hid hv'
    clear hv hv'
    go_enter Tryz.func18, Tryz.ntmps18
    go_wp2_with (go_at_call 16; refine (RValid_any (.slice a1 p.head.length c1) (.slice a2 p.cycle.length c2) p _ (hl _ (by (repeat' (with_reducible first | assumption | exact Ext.refl _ | refine Ext.alloc ?_ _ | refine Ext.drew ?_ | refine Ext.drewN ?_ _ | (refine Ext.setCell ?_ (by first | (simp; done) | (simp; omega) | omega) _) | refine Ext.trans ?_ (by assumption))))) HF0.out HT0.out).mono ?_; rintro e w1 ⟨he, hb1⟩; rw [HV.out] at he; subst he)
    go_ret
    exact ⟨ret_bool (by rw [HV.out]; simp), by (repeat' (with_reducible first | assumption | exact Ext.refl _ | refine Ext.alloc ?_ _ | refine Ext.drew ?_ | refine Ext.drewN ?_ _ | (refine Ext.setCell ?_ (by first | (simp; done) | (simp; omega) | omega) _) | refine Ext.trans ?_ (by assumption)))⟩

end Go.Proofs.YtjilkhhokkncoaaGreat
