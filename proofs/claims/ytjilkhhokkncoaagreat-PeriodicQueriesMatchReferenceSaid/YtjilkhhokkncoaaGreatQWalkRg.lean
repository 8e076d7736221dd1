/- Walks: gcd, below, Count (package kalendsref04). -/
import Derived.Test.YtjilkhhokkncoaaGreatQWalkRh
set_option linter.unusedVariables false
set_option linter.unusedSimpArgs false
namespace Go.Proofs.YtjilkhhokkncoaaGreat
open Go.RowKit Go.Maps Kal

theorem countP_take_succ {l : List Int} {k : Nat} (q : Int → Bool) (h : k < l.length) : (((l.take (k + 1)).countP q : Nat) : Int) = ((l.take k).countP q : Nat) + if q (l.getD k 0) = true then 1 else 0 := by
  rw [List.take_succ_eq_append_getElem h, List.countP_append, List.getD_eq_getElem?_getD, List.getElem?_eq_getElem h]
  simp only [Option.getD_some, List.countP_singleton]
  split <;> simp

set_option maxRecDepth 100000 in
set_option maxHeartbeats 2000000 in
theorem Rbelow_any (h c : Value) (p : Per) (n : Int) (w : World) (hp : PerIs w h c p) (hw : p.WF) (h1 : p.frm ≤ 1125899906842624) (h2 : p.period ≤ 1125899906842624) (hn : 0 ≤ n) (hn2 : n ≤ 9007199254740992) :
    Calls Tryz.prog 48 #[perV h c p.frm p.period, .int .i64 n] w fun e w' => e = .returned (.int .i64 (belowI p n)) ∧ Below w.heap.size w w' := by
  have f0 := hw.frm
  have p0 := hw.per
  have hlc := hw.cyc.length_le (by omega)
  have hlh := hw.head.length_le hw.frm
  obtain ⟨a1, c1, a2, c2, rfl, rfl⟩ := hp.inn.form
  have H1 := Lib.hid hp.hd
  have H2 := Lib.hid hp.cy
  clear hp
  go_enter Tryz.func48, Tryz.ntmps48
  go_upto_region 2 with (fail)
  refine wp_abs (F := fun U => BoxIs U w.heap.size #[.slice a1 p.head.length c1, .int .i64 p.frm, .int .i64 p.period, .slice a2 p.cycle.length c2] 24 ∧ Below w.heap.size w U) ⟨by (first | (refine BoxIs.at ?_; simp; done) | (refine (BoxIs.at ?_).alloc _; simp; done) | (refine ((BoxIs.at ?_).alloc _).alloc _; simp; done) | (refine (((BoxIs.at ?_).alloc _).alloc _).alloc _; simp; done) | (refine ((((BoxIs.at ?_).alloc _).alloc _).alloc _).alloc _; simp; done) | (refine (((((BoxIs.at ?_).alloc _).alloc _).alloc _).alloc _).alloc _; simp; done) | (refine ((((((BoxIs.at ?_).alloc _).alloc _).alloc _).alloc _).alloc _).alloc _; simp; done) | (refine (((((((BoxIs.at ?_).alloc _).alloc _).alloc _).alloc _).alloc _).alloc _).alloc _; simp; done) | (refine ((((((((BoxIs.at ?_).alloc _).alloc _).alloc _).alloc _).alloc _).alloc _).alloc _).alloc _; simp; done) | (refine (((((((((BoxIs.at ?_).alloc _).alloc _).alloc _).alloc _).alloc _).alloc _).alloc _).alloc _).alloc _; simp; done) | (refine ((((((((((BoxIs.at ?_).alloc _).alloc _).alloc _).alloc _).alloc _).alloc _).alloc _).alloc _).alloc _).alloc _; simp; done) | (refine (((((((((((BoxIs.at ?_).alloc _).alloc _).alloc _).alloc _).alloc _).alloc _).alloc _).alloc _).alloc _).alloc _).alloc _; simp; done)), by (repeat' (with_reducible first | assumption | exact Ext.refl _ | refine Ext.alloc ?_ _ | refine Ext.drew ?_ | refine Ext.drewN ?_ _ | (refine Ext.setCell ?_ (by first | (simp; done) | (simp; omega) | omega) _) | refine Ext.trans ?_ (by assumption)))⟩ ?_
  rintro W1 ⟨hbx, hE⟩
  have HBX := Lib.hid hbx
  have HE := Lib.hid hE
  clear hbx hE
  go_wp2_with fail
  go_loopw [5, 6] (fun cn i wr => ∃ k : Nat, k ≤ p.head.length ∧ i = .int .i64 k ∧ cn = .int .i64 (((p.head.take k).countP (fun y => decide (y < n)) : Nat) : Int) ∧ Below W1.heap.size W1 wr) (fun _ i _ => p.head.length - (intOf i).toNat)
  case atStart => exact ⟨0, by omega, rfl, rfl, Below.refl _ _⟩
  case round =>
    obtain ⟨k, hk, rfl, rfl, hb⟩ := hrel
    have HB := Lib.hid hb
    have hbx := HBX.out.below hb
    have q0 := (hbx.cells 0).1
    have q1 := (hbx.cells 1).1
    have q2 := (hbx.cells 2).1
    have q3 := (hbx.cells 3).1
    have hcb := List.countP_le_length (p := fun y => decide (y < n)) (l := p.head.take k)
    rw [List.length_take] at hcb
    by_cases hlt : k < p.head.length
    · have hlI : (k : Int) < p.head.length := by omega
      obtain ⟨⟨a', c', he, _, _, h3⟩, _, hrg⟩ := (H1.out.ext HE.out).ext hb
      injection he with e1 _ e2
      subst e1; subst e2
      rcases h3 with h3 | ⟨b, o, rfl, hcell⟩
      · rw [h3] at hlt; simp at hlt
      have hcl := hcell k hlt
      have HSU := Lib.hid (countP_take_succ (fun y => decide (y < n)) hlt)
      generalize p.head.getD k 0 = y at *
      obtain ⟨cn, hcn⟩ : ∃ cn, cn = ((p.head.take k).countP (fun y => decide (y < n))) := ⟨_, rfl⟩
      rw [← hcn] at hcb HSU
      rw [← hcn]
      clear hcell hcn hb hbx
      by_cases hy : y < n
      · have d1 : decide (y < n) = true := by simp [hy]
        go_wp2_with fail
        go_roundw
        case rel => exact ⟨k + 1, by omega, by go_num, by rw [HSU.out, if_pos d1], by have hb := HB.out; (repeat' (with_reducible first | assumption | exact Ext.refl _ | refine Ext.alloc ?_ _ | refine Ext.drew ?_ | refine Ext.drewN ?_ _ | (refine Ext.setCell ?_ (by first | (simp; done) | (simp; omega) | omega) _) | refine Ext.trans ?_ (by assumption)))⟩
        case measure => simp [intOf]; omega
      · have d1 : decide (y < n) = false := by simp; omega
        go_wp2_with fail
        go_roundw
        case rel => exact ⟨k + 1, by omega, by go_num, by rw [HSU.out, if_neg (by rw [d1]; simp)]; simp, by have hb := HB.out; (repeat' (with_reducible first | assumption | exact Ext.refl _ | refine Ext.alloc ?_ _ | refine Ext.drew ?_ | refine Ext.drewN ?_ _ | (refine Ext.setCell ?_ (by first | (simp; done) | (simp; omega) | omega) _) | refine Ext.trans ?_ (by assumption)))⟩
        case measure => simp [intOf]; omega
    · obtain rfl : k = p.head.length := by omega
      rw [List.take_length] at hcb ⊢
      by_cases hle : n ≤ p.frm
      · have HM : Hid (belowI p n = ((p.head.countP (fun y => decide (y < n)) : Nat) : Int)) := Lib.hid (by unfold belowI; rw [if_pos hle])
        go_wp2_with fail
        go_ret
        exact ⟨ret_int HM.out.symm, by have hE := HE.out; have hb := HB.out; (repeat' (with_reducible first | assumption | exact Ext.refl _ | refine Ext.alloc ?_ _ | refine Ext.drew ?_ | refine Ext.drewN ?_ _ | (refine Ext.setCell ?_ (by first | (simp; done) | (simp; omega) | omega) _) | refine Ext.trans ?_ (by assumption)))⟩
      · have hgt : p.frm < n := by omega
        have HM : Hid (belowI p n = p.head.length + (n - p.frm) / p.period * p.cycle.length + ((p.cycle.countP (fun y => decide (y < (n - p.frm) % p.period)) : Nat) : Int)) := Lib.hid (by unfold belowI; rw [if_neg hle])
        have hall : p.head.countP (fun y => decide (y < n)) = p.head.length := countP_lt_all hw.head (by omega)
        rw [hall]
        obtain ⟨pb1, pb2⟩ := prod_bound (n := n) (f := p.frm) (k := p.cycle.length) p0 (by omega) (by omega) (by omega)
        have hne : ¬ p.period = 0 := by omega
        have htm : (n - p.frm).tmod p.period = (n - p.frm) % p.period := Int.tmod_eq_emod_of_nonneg (by omega)
        have htd : (n - p.frm).tdiv p.period = (n - p.frm) / p.period := Int.tdiv_eq_ediv_of_nonneg (by omega)
        have hq0 : 0 ≤ (n - p.frm) / p.period := Int.ediv_nonneg (by omega) (by omega)
        have hq1 : (n - p.frm) / p.period ≤ n - p.frm := Int.ediv_le_self _ (by omega)
        have hled : decide (n ≤ p.frm) = false := by simp; omega
        clear hall hlt hle hb hbx hcb
        go_upto_region 9 with (fail)
        go_quiet (fail)
        obtain ⟨M, hM⟩ : ∃ M, M = (n - p.frm) % p.period := ⟨_, rfl⟩
        obtain ⟨S, hS⟩ : ∃ S, S = (p.head.length : Int) + (n - p.frm) / p.period * p.cycle.length := ⟨_, rfl⟩
        rw [← hM, ← hS] at HM
        rw [← hS]
        rw [← hM] at htm
        have hS0 : 0 ≤ S ∧ S ≤ 9007199254740992 + 9007199254740992 := by omega
        clear hS hM htd hq0 hq1 pb1 pb2
        go_wp2_with fail
        go_loopw [5, 7] (fun cn i wq => ∃ j : Nat, j ≤ p.cycle.length ∧ i = .int .i64 j ∧ cn = .int .i64 (S + ((p.cycle.take j).countP (fun y => decide (y < M)) : Nat)) ∧ Below wr.heap.size wr wq) (fun _ i _ => p.cycle.length - (intOf i).toNat)
        case atStart => exact ⟨0, by omega, rfl, by simp, by (repeat' (with_reducible first | assumption | exact Ext.refl _ | refine Ext.alloc ?_ _ | refine Ext.drew ?_ | refine Ext.drewN ?_ _ | (refine Ext.setCell ?_ (by first | (simp; done) | (simp; omega) | omega) _) | refine Ext.trans ?_ (by assumption)))⟩
        case round =>
          obtain ⟨j, hj, rfl, rfl, hbq⟩ := hrel
          have HBQ := Lib.hid hbq
          have hbx := (HBX.out.below HB.out).below hbq
          have q0 := (hbx.cells 0).1
          have q1 := (hbx.cells 1).1
          have q2 := (hbx.cells 2).1
          have q3 := (hbx.cells 3).1
          have hcb := List.countP_le_length (p := fun y => decide (y < M)) (l := p.cycle.take j)
          rw [List.length_take] at hcb
          by_cases hlt : j < p.cycle.length
          · have hlI : (j : Int) < p.cycle.length := by omega
            obtain ⟨⟨a', c', he, _, _, h3⟩, _, hrg⟩ := ((H2.out.ext HE.out).ext HB.out).ext hbq
            injection he with e1 _ e2
            subst e1; subst e2
            rcases h3 with h3 | ⟨b, o, rfl, hcell⟩
            · rw [h3] at hlt; simp at hlt
            have hcl := hcell j hlt
            have HSU := Lib.hid (countP_take_succ (fun y => decide (y < M)) hlt)
            generalize p.cycle.getD j 0 = y at *
            obtain ⟨cn, hcn⟩ : ∃ cn, cn = ((p.cycle.take j).countP (fun y => decide (y < M))) := ⟨_, rfl⟩
            rw [← hcn] at hcb HSU
            rw [← hcn]
            clear hcell hcn hbq hbx
            by_cases hy : y < M
            · have d1 : decide (y < M) = true := by simp [hy]
              go_wp2_with fail
              go_quiet (fail)
              go_wp2_with fail
              go_roundw
              case rel => exact ⟨j + 1, by omega, by go_num, by rw [HSU.out, if_pos d1]; congr 1; omega, by have hb := HBQ.out; (repeat' (with_reducible first | assumption | exact Ext.refl _ | refine Ext.alloc ?_ _ | refine Ext.drew ?_ | refine Ext.drewN ?_ _ | (refine Ext.setCell ?_ (by first | (simp; done) | (simp; omega) | omega) _) | refine Ext.trans ?_ (by assumption)))⟩
              case measure => simp [intOf]; omega
            · have d1 : decide (y < M) = false := by simp; omega
              go_wp2_with fail
              go_quiet (fail)
              go_wp2_with fail
              go_roundw
              case rel => exact ⟨j + 1, by omega, by go_num, by rw [HSU.out, if_neg (by rw [d1]; simp)]; simp, by have hb := HBQ.out; (repeat' (with_reducible first | assumption | exact Ext.refl _ | refine Ext.alloc ?_ _ | refine Ext.drew ?_ | refine Ext.drewN ?_ _ | (refine Ext.setCell ?_ (by first | (simp; done) | (simp; omega) | omega) _) | refine Ext.trans ?_ (by assumption)))⟩
              case measure => simp [intOf]; omega
          · obtain rfl : j = p.cycle.length := by omega
            rw [List.take_length] at hcb ⊢
            go_wp2_with fail
            go_ret
            exact ⟨ret_int HM.out.symm, by have hE := HE.out; have hb := HB.out; have hbq := HBQ.out; (repeat' (with_reducible first | assumption | exact Ext.refl _ | refine Ext.alloc ?_ _ | refine Ext.drew ?_ | refine Ext.drewN ?_ _ | (refine Ext.setCell ?_ (by first | (simp; done) | (simp; omega) | omega) _) | refine Ext.trans ?_ (by assumption)))⟩

end Go.Proofs.YtjilkhhokkncoaaGreat
