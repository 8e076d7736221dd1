/- Walks: PeriodicResidues (package kalendslaw04). -/
import Derived.Test.YtjilkhhokkncoaaK15
set_option linter.unusedVariables false
set_option linter.unusedSimpArgs false
namespace Go.Proofs.Ytjilkhhokkncoaa
open Go.RowKit Go.Maps Kal

theorem made_valid {p : Per} (hw : p.WF) (h1 : p.frm ≤ 20) (h2 : p.period ≤ 12) : Valid p := by
  have h3 := hw.head.length_le hw.frm
  have h4 := hw.cyc.length_le (show (0 : Int) ≤ p.period by have := hw.per; omega)
  exact ⟨hw, by omega, by omega, by omega⟩

theorem resL_mem {p : Per} {n r : Int} (hn : 1 ≤ n) : r ∈ resL p n ↔ 0 ≤ r ∧ r < n ∧ resG p (Int.gcd p.period n : Nat) r := by
  unfold resL resG
  rw [List.mem_filter, upto_mem]
  unfold resF
  rw [List.any_eq_true]
  constructor
  · rintro ⟨⟨h1, h2⟩, c, hc, h3⟩; exact ⟨h1, by omega, c, hc, of_decide_eq_true h3⟩
  · rintro ⟨h1, h2, c, hc, h3⟩; exact ⟨⟨h1, by omega⟩, c, hc, decide_eq_true h3⟩

theorem resL_rise (p : Per) (n : Int) (hn : 1 ≤ n) : Rise 0 n (resL p n) :=
  ⟨(upto_rise _).1.filter _, fun x hx => by have := (resL_mem hn).1 hx; omega⟩

theorem fnd_listed {p : Per} (hw : p.WF) (h1 : p.frm ≤ 20) (h2 : p.period ≤ 12) {n r fr : Int} (hn : 1 ≤ n) (hn1 : n ≤ 30) (hf : 20 ≤ fr) (r0 : 0 ≤ r) (r1 : r < n) : fndB p n r fr 360 = decide (r ∈ resL p n) := by
  rw [Bool.eq_iff_iff, fndB_iff (by omega), decide_eq_true_eq, resL_mem hn]
  have hl := lcm_le hw.per hn h2 hn1
  have := res_window hw hn r0 r1 (show p.frm ≤ fr by omega) (W := 360) (by omega)
  constructor
  · intro h; exact ⟨r0, r1, this.1 h⟩
  · intro h; exact this.2 h.2.2

set_option maxRecDepth 100000 in
set_option maxHeartbeats 2000000 in
theorem PeriodicResidues_any (va : Value) (m late : Int) (w : World) (hra : RawIs w va) (m0 : 0 ≤ m) (m1 : m ≤ 255) (l0 : 0 ≤ late) (l1 : late ≤ 65535) :
    Calls Try.prog 5 #[va, .int .u8 m, .int .u16 late] w fun e w' => e = .returned (.bool true) ∧ Below w.heap.size w w' := by
  obtain ⟨hv, cv, hl, cl, f, t, rfl, h1, h2, f0, f1, t0, t1⟩ := hra
  have H1 := Lib.hid h1
  have H2 := Lib.hid h2
  obtain ⟨⟨a1, c1, rfl, _⟩, g2, _⟩ := h1
  obtain ⟨⟨a2, c2, rfl, _⟩, k2, _⟩ := h2
  have hn0 := Int.emod_nonneg m (show (30 : Int) ≠ 0 by omega)
  have hn1 := Int.emod_lt_of_pos m (show (0 : Int) < 30 by omega)
  go_enter Try.func5, Try.ntmps5
  go_upto_region 4 with (first | (go_at_call 13; refine (sanity_any _).mono ?_; rintro e u1 ⟨rfl, k1⟩; obtain ⟨kc1, kf1⟩ := bcell k1; (try simp only [World.size_alloc, World.size_drew, size_drewN, World.size_setCell] at kc1 kf1); have kz1 : w.heap.size < u1.heap.size := (by have h7 := k1.size; simp at h7; omega)) | (go_at_call 14; refine (Made_any _ _ hl cl f t _ (H1.out.ext (by (repeat' (first | (with_reducible first | exact Ext.refl _ | assumption | refine Ext.alloc ?_ _ | refine Ext.drew ?_ | refine Ext.drewN ?_ _ | refine Ext.setCell ?_ (by first | (simp; done) | (simp; omega) | omega) _) | exact Ext.refl _ | assumption | refine Ext.alloc ?_ _ | refine Ext.drew ?_ | refine Ext.drewN ?_ _ | refine Ext.setCell ?_ (by first | (simp; done) | (simp; omega) | omega) _ | refine Ext.trans ?_ (by assumption))))) (H2.out.ext (by (repeat' (first | (with_reducible first | exact Ext.refl _ | assumption | refine Ext.alloc ?_ _ | refine Ext.drew ?_ | refine Ext.drewN ?_ _ | refine Ext.setCell ?_ (by first | (simp; done) | (simp; omega) | omega) _) | exact Ext.refl _ | assumption | refine Ext.alloc ?_ _ | refine Ext.drew ?_ | refine Ext.drewN ?_ _ | refine Ext.setCell ?_ (by first | (simp; done) | (simp; omega) | omega) _ | refine Ext.trans ?_ (by assumption))))) f0 f1 t0 t1).mono ?_; rintro e u2 ⟨hA, cA, p, rfl, oA, hwf, hfr, hpr, kA⟩; have sA := oA.is; obtain ⟨x1, y1, x2, y2, rfl, rfl⟩ := oA.form; clear oA))
  refine wp_abs (F := fun U => SetB U u2.heap.size p ∧ Below w.heap.size w U) ⟨⟨.slice x1 p.head.length y1, .slice x2 p.cycle.length y2, by (first | (refine BoxIs.at ?_; simp; done) | (refine (BoxIs.at ?_).alloc _; simp; done) | (refine ((BoxIs.at ?_).alloc _).alloc _; simp; done) | (refine (((BoxIs.at ?_).alloc _).alloc _).alloc _; simp; done) | (refine ((((BoxIs.at ?_).alloc _).alloc _).alloc _).alloc _; simp; done) | (refine (((((BoxIs.at ?_).alloc _).alloc _).alloc _).alloc _).alloc _; simp; done) | (refine ((((((BoxIs.at ?_).alloc _).alloc _).alloc _).alloc _).alloc _).alloc _; simp; done) | (refine (((((((BoxIs.at ?_).alloc _).alloc _).alloc _).alloc _).alloc _).alloc _).alloc _; simp; done) | (refine ((((((((BoxIs.at ?_).alloc _).alloc _).alloc _).alloc _).alloc _).alloc _).alloc _).alloc _; simp; done) | (refine (((((((((BoxIs.at ?_).alloc _).alloc _).alloc _).alloc _).alloc _).alloc _).alloc _).alloc _).alloc _; simp; done) | (refine ((((((((((BoxIs.at ?_).alloc _).alloc _).alloc _).alloc _).alloc _).alloc _).alloc _).alloc _).alloc _).alloc _; simp; done) | (refine (((((((((((BoxIs.at ?_).alloc _).alloc _).alloc _).alloc _).alloc _).alloc _).alloc _).alloc _).alloc _).alloc _).alloc _; simp; done)), sA.ext (by (repeat' (first | (with_reducible first | exact Ext.refl _ | assumption | refine Ext.alloc ?_ _ | refine Ext.drew ?_ | refine Ext.drewN ?_ _ | refine Ext.setCell ?_ (by first | (simp; done) | (simp; omega) | omega) _) | exact Ext.refl _ | assumption | refine Ext.alloc ?_ _ | refine Ext.drew ?_ | refine Ext.drewN ?_ _ | refine Ext.setCell ?_ (by first | (simp; done) | (simp; omega) | omega) _ | refine Ext.trans ?_ (by assumption))))⟩, by (repeat' (first | (with_reducible first | exact Ext.refl _ | assumption | refine Ext.alloc ?_ _ | refine Ext.drew ?_ | refine Ext.drewN ?_ _ | refine Ext.setCell ?_ (by first | (simp; done) | (simp; omega) | omega) _) | exact Ext.refl _ | assumption | refine Ext.alloc ?_ _ | refine Ext.drew ?_ | refine Ext.drewN ?_ _ | refine Ext.setCell ?_ (by first | (simp; done) | (simp; omega) | omega) _ | refine Ext.trans ?_ (by assumption)))⟩ ?_
  clear k1 kc1 kf1 kz1 sA kA H1 H2
  generalize u2.heap.size = bx at *
  rintro W1 ⟨hS, hE⟩
  obtain ⟨hL, cL, gL⟩ := hS
  have HV := Lib.hid (made_valid hwf hfr hpr)
  obtain ⟨n, hn⟩ : ∃ n, n = 1 + m % 30 := ⟨_, rfl⟩
  rw [← hn]
  have hn2 : 1 ≤ n ∧ n ≤ 30 := by omega
  clear hn
  obtain ⟨N, hN⟩ : ∃ N : Nat, n = N := ⟨n.toNat, by omega⟩
  subst hN
  have q0 := (gL.box.cells 0).1
  have q1 := (gL.box.cells 1).1
  have q2 := (gL.box.cells 2).1
  have q3 := (gL.box.cells 3).1
  go_upto_region 9 with (go_at_call 17; refine (Residues_ok hL cL p N _ (gL.is.ext (by (repeat' (first | (with_reducible first | exact Ext.refl _ | assumption | refine Ext.alloc ?_ _ | refine Ext.drew ?_ | refine Ext.drewN ?_ _ | refine Ext.setCell ?_ (by first | (simp; done) | (simp; omega) | omega) _) | exact Ext.refl _ | assumption | refine Ext.alloc ?_ _ | refine Ext.drew ?_ | refine Ext.drewN ?_ _ | refine Ext.setCell ?_ (by first | (simp; done) | (simp; omega) | omega) _ | refine Ext.trans ?_ (by assumption))))) HV.out (by omega) (by omega)).mono ?_; rintro e u3 ⟨rv, rfl, hrv, k3⟩)
  refine wp_abs (F := fun U => SetAt U bx hL cL p ∧ Ints U rv (resL p N) ∧ Below w.heap.size w U) ⟨gL.below (by (repeat' (first | (with_reducible first | exact Ext.refl _ | assumption | refine Ext.alloc ?_ _ | refine Ext.drew ?_ | refine Ext.drewN ?_ _ | refine Ext.setCell ?_ (by first | (simp; done) | (simp; omega) | omega) _) | exact Ext.refl _ | assumption | refine Ext.alloc ?_ _ | refine Ext.drew ?_ | refine Ext.drewN ?_ _ | refine Ext.setCell ?_ (by first | (simp; done) | (simp; omega) | omega) _ | refine Ext.trans ?_ (by assumption)))), hrv.ext (by (repeat' (first | (with_reducible first | exact Ext.refl _ | assumption | refine Ext.alloc ?_ _ | refine Ext.drew ?_ | refine Ext.drewN ?_ _ | refine Ext.setCell ?_ (by first | (simp; done) | (simp; omega) | omega) _) | exact Ext.refl _ | assumption | refine Ext.alloc ?_ _ | refine Ext.drew ?_ | refine Ext.drewN ?_ _ | refine Ext.setCell ?_ (by first | (simp; done) | (simp; omega) | omega) _ | refine Ext.trans ?_ (by assumption)))), by (repeat' (first | (with_reducible first | exact Ext.refl _ | assumption | refine Ext.alloc ?_ _ | refine Ext.drew ?_ | refine Ext.drewN ?_ _ | refine Ext.setCell ?_ (by first | (simp; done) | (simp; omega) | omega) _) | exact Ext.refl _ | assumption | refine Ext.alloc ?_ _ | refine Ext.drew ?_ | refine Ext.drewN ?_ _ | refine Ext.setCell ?_ (by first | (simp; done) | (simp; omega) | omega) _ | refine Ext.trans ?_ (by assumption)))⟩ ?_
  clear q0 q1 q2 q3 gL hrv k3 hE
  rintro W2 ⟨gL, hrv, hE⟩
  obtain ⟨fr, hfr2⟩ : ∃ fr, fr = 20 + late := ⟨_, rfl⟩
  rw [← hfr2]
  have hfr3 : 20 ≤ fr ∧ fr ≤ 70000 := by omega
  clear hfr2
  obtain ⟨R, hR⟩ : ∃ R, R = resL p N := ⟨_, rfl⟩
  rw [← hR] at hrv
  have HR := Lib.hid hR
  have HRV := Lib.hid hrv
  obtain ⟨⟨ra, rc, rfl, _⟩, hRl, _⟩ := hrv
  have HG := Lib.hid gL
  have HE := Lib.hid hE
  clear hR gL hE
  go_wp2_with fail
  go_loopw [13, 14] (fun av rv2 wr => ∃ k : Nat, k ≤ N ∧ rv2 = .int .i64 k ∧ av = .int .i64 ((R.countP (fun y => decide (y < (k : Int))) : Nat) : Int) ∧ Below W2.heap.size W2 wr) (fun _ r _ => N - (intOf r).toNat)
  case atStart => exact ⟨0, by omega, rfl, by rw [countP_lt_none (a := 0) (b := N) (by rw [HR.out]; exact resL_rise p N (by omega)) (by simp)]; rfl, Below.refl _ _⟩
  case round =>
    obtain ⟨k, hk, rfl, rfl, hb⟩ := hrel
    have HB := Lib.hid hb
    have hzb := hb.size
    by_cases hlt : k < N
    · have hkI : (k : Int) < N := by omega
      go_wp2_with fail
      go_loopw [15, 16] (fun fo d wq => ∃ j : Nat, j ≤ 360 ∧ d = .int .i64 (fr + j) ∧ fo = .bool (fndB p N k fr j) ∧ Below wr.heap.size wr wq) (fun _ d _ => ((fr + 360) - intOf d).toNat)
      case atStart => exact ⟨0, by omega, by simp, rfl, Below.refl _ _⟩
      case round =>
        obtain ⟨j, hj, rfl, rfl, hbq⟩ := hrel
        have HBQ := Lib.hid hbq
        have hszq := hbq.size
        by_cases hlj : j < 360
        · have hjI : (j : Int) < 360 := by omega
          have gq := (HG.out.below HB.out).below hbq
          have q0 := (gq.box.cells 0).1
          have q1 := (gq.box.cells 1).1
          have q2 := (gq.box.cells 2).1
          have q3 := (gq.box.cells 3).1
          have HGQ := Lib.hid gq
          have hval : (validB p && decide (0 ≤ fr + (j : Int)) && memB p (fr + j)) = memB p (fr + j) := by rw [(validB_iff p).2 HV.out, decide_eq_true (show 0 ≤ fr + (j : Int) by omega)]; rfl
          have HS := Lib.hid (fndB_succ p N k fr j)
          have hx0 := Int.emod_nonneg (fr + j) (show (N : Int) ≠ 0 by omega)
          have hx1 := Int.emod_lt_of_pos (fr + j) (show (0 : Int) < N by omega)
          obtain ⟨fb, hfb⟩ : ∃ fb, fb = fndB p N k fr j := ⟨_, rfl⟩
          rw [← hfb] at HS
          rw [← hfb]
          clear hfb gq hbq
          have hd0 : 0 ≤ fr + (j : Int) := by omega
          obtain ⟨mb, hmb⟩ : ∃ mb, mb = memB p (fr + j) := ⟨_, rfl⟩
          rw [← hmb] at HS
          have HVAL : Hid ((validB p && decide (0 ≤ fr + (j : Int)) && memB p (fr + j)) = mb) := Lib.hid (by rw [hmb]; exact hval)
          clear hmb hval
          cases fb
          · by_cases hyk : (fr + (j : Int)) % N = k
            · have hyb : ((fr + (j : Int)) % N == (k : Int)) = true := by rw [hyk]; simp
              have HYK := Lib.hid hyk
              clear hyk
              go_wp2_with (go_at_call 24; refine (has_any hL cL p (fr + j) _ (HGQ.out.is.ext (by (repeat' (first | (with_reducible first | exact Ext.refl _ | assumption | refine Ext.alloc ?_ _ | refine Ext.drew ?_ | refine Ext.drewN ?_ _ | refine Ext.setCell ?_ (by first | (simp; done) | (simp; omega) | omega) _) | exact Ext.refl _ | assumption | refine Ext.alloc ?_ _ | refine Ext.drew ?_ | refine Ext.drewN ?_ _ | refine Ext.setCell ?_ (by first | (simp; done) | (simp; omega) | omega) _ | refine Ext.trans ?_ (by assumption))))) ⟨by omega, by omega⟩ (by omega)).mono ?_; rintro e u4 ⟨he, k4⟩; rw [HVAL.out] at he; subst he)
              go_roundw
              case rel => exact ⟨j + 1, by omega, by go_num, by rw [HS.out, HYK.out]; simp, by have hbq := HBQ.out; (repeat' (first | (with_reducible first | exact Ext.refl _ | assumption | refine Ext.alloc ?_ _ | refine Ext.drew ?_ | refine Ext.drewN ?_ _ | refine Ext.setCell ?_ (by first | (simp; done) | (simp; omega) | omega) _) | exact Ext.refl _ | assumption | refine Ext.alloc ?_ _ | refine Ext.drew ?_ | refine Ext.drewN ?_ _ | refine Ext.setCell ?_ (by first | (simp; done) | (simp; omega) | omega) _ | refine Ext.trans ?_ (by assumption)))⟩
              case measure => simp [intOf]; omega
            · have hyb : ((fr + (j : Int)) % N == (k : Int)) = false := by simp [hyk]
              have HYK := Lib.hid hyk
              clear hyk
              go_wp2_with fail
              go_roundw
              case rel => exact ⟨j + 1, by omega, by go_num, by rw [HS.out, decide_eq_false HYK.out]; simp, by have hbq := HBQ.out; (repeat' (first | (with_reducible first | exact Ext.refl _ | assumption | refine Ext.alloc ?_ _ | refine Ext.drew ?_ | refine Ext.drewN ?_ _ | refine Ext.setCell ?_ (by first | (simp; done) | (simp; omega) | omega) _) | exact Ext.refl _ | assumption | refine Ext.alloc ?_ _ | refine Ext.drew ?_ | refine Ext.drewN ?_ _ | refine Ext.setCell ?_ (by first | (simp; done) | (simp; omega) | omega) _ | refine Ext.trans ?_ (by assumption)))⟩
              case measure => simp [intOf]; omega
          · go_wp2_with fail
            go_roundw
            case rel => exact ⟨j + 1, by omega, by go_num, by rw [HS.out]; simp, by have hbq := HBQ.out; (repeat' (first | (with_reducible first | exact Ext.refl _ | assumption | refine Ext.alloc ?_ _ | refine Ext.drew ?_ | refine Ext.drewN ?_ _ | refine Ext.setCell ?_ (by first | (simp; done) | (simp; omega) | omega) _) | exact Ext.refl _ | assumption | refine Ext.alloc ?_ _ | refine Ext.drew ?_ | refine Ext.drewN ?_ _ | refine Ext.setCell ?_ (by first | (simp; done) | (simp; omega) | omega) _ | refine Ext.trans ?_ (by assumption)))⟩
            case measure => simp [intOf]; omega
        · obtain rfl : j = 360 := by omega
          have HFL := Lib.hid (fnd_listed hwf hfr hpr (n := N) (r := k) (fr := fr) (by omega) (by omega) (by omega) (by omega) (by omega))
          rw [← HR.out] at HFL
          have hRr : Rise 0 N R := by rw [HR.out]; exact resL_rise p N (by omega)
          have HLA := Lib.hid (listed_at hRr.1 (k : Int))
          have HSU := Lib.hid (countP_lt_succ hRr.1 (k : Int))
          have hal : (R.countP (fun y => decide (y < (k : Int)))) ≤ R.length := List.countP_le_length
          obtain ⟨a, ha⟩ : ∃ a, a = R.countP (fun y => decide (y < (k : Int))) := ⟨_, rfl⟩
          rw [← ha] at HLA HSU hal
          rw [← ha]
          clear ha hRr
          by_cases hkR : (k : Int) ∈ R
          · obtain ⟨h7, h8⟩ := HLA.out.1 hkR
            have HFT : Hid (fndB p N k fr 360 = true) := Lib.hid (by rw [HFL.out, decide_eq_true hkR])
            have HSV : Hid (((R.countP (fun y => decide (y < (k : Int) + 1)) : Nat) : Int) = (a : Int) + 1) := Lib.hid (by rw [HSU.out, if_pos hkR])
            obtain ⟨⟨ra', rc', he1, _, _, h38⟩, _, _⟩ := HRV.out.ext (Below.trans HB.out (HBQ.out.mono hzb))
            injection he1 with e1 _ e2
            subst e1; subst e2
            rcases h38 with h38 | ⟨b8, o8, rfl, hcell⟩
            · rw [h38] at h7; simp at h7
            have hcl := hcell a h7
            rw [h8] at hcl
            have haI : (a : Int) < R.length := by omega
            clear hcell hkR h8 hbq
            rw [HFT.out]
            go_wp2_with fail
            go_roundw
            case rel => exact ⟨k + 1, by omega, by go_num, by rw [show ((k + 1 : Nat) : Int) = (k : Int) + 1 from by omega, HSV.out], by have hb := HB.out; have hbq := HBQ.out; (repeat' (first | (with_reducible first | exact Ext.refl _ | assumption | refine Ext.alloc ?_ _ | refine Ext.drew ?_ | refine Ext.drewN ?_ _ | refine Ext.setCell ?_ (by first | (simp; done) | (simp; omega) | omega) _) | exact Ext.refl _ | assumption | refine Ext.alloc ?_ _ | refine Ext.drew ?_ | refine Ext.drewN ?_ _ | refine Ext.setCell ?_ (by first | (simp; done) | (simp; omega) | omega) _ | refine Ext.trans ?_ (by assumption)))⟩
            case measure => simp [intOf]; omega
          · have HFT : Hid (fndB p N k fr 360 = false) := Lib.hid (by rw [HFL.out, decide_eq_false hkR])
            have HSV : Hid (((R.countP (fun y => decide (y < (k : Int) + 1)) : Nat) : Int) = (a : Int)) := Lib.hid (by rw [HSU.out, if_neg hkR]; omega)
            rw [HFT.out]
            by_cases h7 : a < R.length
            · have h8 : ¬ R.getD a 0 = k := fun h => hkR (HLA.out.2 ⟨h7, h⟩)
              have h9 : (R.getD a 0 == (k : Int)) = false := by simpa using h8
              obtain ⟨⟨ra', rc', he1, _, _, h38⟩, _, _⟩ := HRV.out.ext (Below.trans HB.out (HBQ.out.mono hzb))
              injection he1 with e1 _ e2
              subst e1; subst e2
              rcases h38 with h38 | ⟨b8, o8, rfl, hcell⟩
              · rw [h38] at h7; simp at h7
              have hcl := hcell a h7
              have haI : (a : Int) < R.length := by omega
              generalize R.getD a 0 = z at *
              clear hcell hkR h8 hbq
              go_wp2_with fail
              go_roundw
              case rel => exact ⟨k + 1, by omega, by go_num, by rw [show ((k + 1 : Nat) : Int) = (k : Int) + 1 from by omega, HSV.out], by have hb := HB.out; have hbq := HBQ.out; (repeat' (first | (with_reducible first | exact Ext.refl _ | assumption | refine Ext.alloc ?_ _ | refine Ext.drew ?_ | refine Ext.drewN ?_ _ | refine Ext.setCell ?_ (by first | (simp; done) | (simp; omega) | omega) _) | exact Ext.refl _ | assumption | refine Ext.alloc ?_ _ | refine Ext.drew ?_ | refine Ext.drewN ?_ _ | refine Ext.setCell ?_ (by first | (simp; done) | (simp; omega) | omega) _ | refine Ext.trans ?_ (by assumption)))⟩
              case measure => simp [intOf]; omega
            · have haI : ¬ (a : Int) < R.length := by omega
              clear hkR hbq
              go_wp2_with fail
              go_roundw
              case rel => exact ⟨k + 1, by omega, by go_num, by rw [show ((k + 1 : Nat) : Int) = (k : Int) + 1 from by omega, HSV.out], by have hb := HB.out; have hbq := HBQ.out; (repeat' (first | (with_reducible first | exact Ext.refl _ | assumption | refine Ext.alloc ?_ _ | refine Ext.drew ?_ | refine Ext.drewN ?_ _ | refine Ext.setCell ?_ (by first | (simp; done) | (simp; omega) | omega) _) | exact Ext.refl _ | assumption | refine Ext.alloc ?_ _ | refine Ext.drew ?_ | refine Ext.drewN ?_ _ | refine Ext.setCell ?_ (by first | (simp; done) | (simp; omega) | omega) _ | refine Ext.trans ?_ (by assumption)))⟩
              case measure => simp [intOf]; omega
    · obtain rfl : k = N := by omega
      have hce : R.countP (fun y => decide (y < (k : Int))) = R.length := countP_lt_all (a := 0) (b := k) (by rw [HR.out]; exact resL_rise p k (by omega)) (Int.le_refl _)
      rw [hce]
      clear hce
      go_wp2_with fail
      go_ret
      exact ⟨rfl, by have hE := HE.out; (repeat' (first | (with_reducible first | exact Ext.refl _ | assumption | refine Ext.alloc ?_ _ | refine Ext.drew ?_ | refine Ext.drewN ?_ _ | refine Ext.setCell ?_ (by first | (simp; done) | (simp; omega) | omega) _) | exact Ext.refl _ | assumption | refine Ext.alloc ?_ _ | refine Ext.drew ?_ | refine Ext.drewN ?_ _ | refine Ext.setCell ?_ (by first | (simp; done) | (simp; omega) | omega) _ | refine Ext.trans ?_ (by assumption)))⟩

end Go.Proofs.Ytjilkhhokkncoaa
