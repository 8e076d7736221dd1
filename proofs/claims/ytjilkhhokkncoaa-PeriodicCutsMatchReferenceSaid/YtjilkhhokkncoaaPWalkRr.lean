/- Walks: Residues (package kalendsref04). -/
import Derived.Test.YtjilkhhokkncoaaPWalkRm
set_option linter.unusedVariables false
set_option linter.unusedSimpArgs false
namespace Go.Proofs.Ytjilkhhokkncoaa
open Go.RowKit Go.Maps Kal

theorem any_take_succ {l : List Int} {k : Nat} (q : Int → Bool) (h : k < l.length) : (l.take (k + 1)).any q = ((l.take k).any q || q (l.getD k 0)) := by
  rw [List.take_succ_eq_append_getElem h, List.any_append, List.getD_eq_getElem?_getD, List.getElem?_eq_getElem h]
  simp

theorem any_take_full {l : List Int} {k : Nat} (q : Int → Bool) (h : (l.take k).any q = true) : l.any q = true := by
  rw [List.any_eq_true] at h ⊢
  obtain ⟨x, hx, hq⟩ := h
  exact ⟨x, List.mem_of_mem_take hx, hq⟩

set_option maxRecDepth 100000 in
set_option maxHeartbeats 4000000 in
theorem RResidues_ok (h c : Value) (p : Per) (m : Int) (w : World) (hp : PerIs w h c p) (hv : Valid p) (h0 : 1 ≤ m) (h1 : m ≤ 1048576) :
    Calls Try.prog 18 #[perV h c p.frm p.period, .int .i64 m] w fun e w' => ∃ v, e = .returned (.tuple #[v, .int .i64 0]) ∧ Ints w' v (resL p m) ∧ Below w.heap.size w w' := by
  have f0 := hv.wf.frm
  have f1 : p.frm ≤ 1099511627776 := hv.frm
  have p0 := hv.wf.per
  have p1 : p.period ≤ 1099511627776 := hv.per
  have HVB := Lib.hid ((validB_iff p).2 hv)
  have hg := gcd_bound (b := m) p0
  have hg2 := gcd_bound2 (a := p.period) h0
  obtain ⟨g, hgd⟩ : ∃ g, g = ((Int.gcd p.period m : Nat) : Int) := ⟨_, rfl⟩
  rw [← hgd] at hg hg2
  have HGD := Lib.hid hgd.symm
  obtain ⟨M, hM⟩ : ∃ M : Nat, m = M := ⟨m.toNat, by omega⟩
  have HRES : Hid (resL p m = (upto M).filter (resF p g)) := Lib.hid (by unfold resL; rw [hgd, hM]; rfl)
  have HC := Lib.hid hv.wf.cyc
  obtain ⟨a1, c1, a2, c2, rfl, rfl⟩ := hp.inn.form
  have H1 := Lib.hid hp.hd
  have H2 := Lib.hid hp.cy
  have HP := Lib.hid hp
  have hpi := Lib.hid (show InI p.frm from ⟨by omega, by omega⟩)
  have hpt := Lib.hid (show InI p.period from ⟨by omega, by omega⟩)
  subst hM
  clear hp hv hgd
  have d1 : decide ((M : Int) < 1) = false := by simp; omega
  have d2 : decide ((1048576 : Int) < (M : Int)) = false := by simp; omega
  go_enter Try.func18, Try.ntmps18
  go_upto_region 6 with (first | (go_at_call 44; refine (RValid_any _ _ p _ (HP.out.ext (by (repeat' (with_reducible first | assumption | exact Ext.refl _ | refine Ext.alloc ?_ _ | refine Ext.drew ?_ | refine Ext.drewN ?_ _ | (refine Ext.setCell ?_ (by first | (simp; done) | (simp; omega) | omega) _) | refine Ext.trans ?_ (by assumption))))) hpi.out hpt.out).mono ?_; rintro e w1 ⟨he, hb1⟩; rw [HVB.out] at he; subst he; obtain ⟨hc1, hf1⟩ := bcell hb1; (try simp only [World.size_alloc, World.size_drew, size_drewN, World.size_setCell] at hc1 hf1); have hz1 := hb1.size; (try simp only [World.size_alloc, World.size_drew, size_drewN, World.size_setCell] at hz1); have hz1' : w.heap.size < w1.heap.size := by omega) | (go_at_call 50; refine (Rgcd_any _ _ _ p0 (by omega) (by omega) (by omega)).mono ?_; rintro e w' ⟨he, rfl⟩; rw [HGD.out] at he; subst he))
  refine wp_abs (F := fun U => BoxIs U w.heap.size #[.slice a1 p.head.length c1, .int .i64 p.frm, .int .i64 p.period, .slice a2 p.cycle.length c2] 28 ∧ w.heap.size < U.heap.size ∧ Below w.heap.size w U) ⟨(BoxIs.at rfl).upto hb1 (by simp), by omega, by (repeat' (with_reducible first | assumption | exact Ext.refl _ | refine Ext.alloc ?_ _ | refine Ext.drew ?_ | refine Ext.drewN ?_ _ | (refine Ext.setCell ?_ (by first | (simp; done) | (simp; omega) | omega) _) | refine Ext.trans ?_ (by assumption)))⟩ ?_
  rintro W1 ⟨hbx, hz1, hE⟩
  have HBX := Lib.hid hbx
  have HE := Lib.hid hE
  clear hbx hE hb1 hc1 hf1
  go_upto_region 7 with (fail)
  refine wp_abs (F := fun U => OwnI U W1.heap.size (.slice (some ⟨W1.heap.size, 0, none⟩) 0 0) [] ∧ Below W1.heap.size W1 U) ⟨OwnI.empty (Nat.le_refl _), by (repeat' (with_reducible first | assumption | exact Ext.refl _ | refine Ext.alloc ?_ _ | refine Ext.drew ?_ | refine Ext.drewN ?_ _ | (refine Ext.setCell ?_ (by first | (simp; done) | (simp; omega) | omega) _) | refine Ext.trans ?_ (by assumption)))⟩ ?_
  rintro W2 ⟨hown0, hE2⟩
  have hgz : ¬ g = 0 := by omega
  go_wp2_with fail
  go_loopw [7, 8] (fun o i wr => ∃ k : Nat, k ≤ M ∧ i = .int .i64 k ∧ OwnI wr W1.heap.size o ((upto k).filter (resF p g)) ∧ Below W1.heap.size W1 wr) (fun _ i _ => M - (intOf i).toNat)
  case atStart => exact ⟨0, by omega, rfl, hown0, hE2⟩
  case round =>
    obtain ⟨k, hk, rfl, hown, hb⟩ := hrel
    have HB := Lib.hid hb
    have hszr := hb.size
    obtain ⟨va, vc, rfl⟩ := hown.form
    have hlen9 : ((upto k).filter (resF p g)).length ≤ 1048576 := by
      have := List.length_filter_le (resF p g) (upto k)
      have h2 : (upto k).length = k := by simp [upto]
      omega
    have HSU := Lib.hid (resL_succ p g k)
    obtain ⟨L, hL⟩ : ∃ L, L = (upto k).filter (resF p g) := ⟨_, rfl⟩
    rw [← hL] at hown hlen9 HSU
    rw [← hL]
    have HL := Lib.hid hL
    have HOWN := Lib.hid hown
    clear hown hb hL
    by_cases hlt : k < M
    · have hkI : (k : Int) < M := by omega
      have hkm := Int.emod_nonneg (k : Int) (show g ≠ 0 by omega)
      have htk : (k : Int).tmod g = (k : Int) % g := Int.tmod_eq_emod_of_nonneg (by omega)
      obtain ⟨R, hR⟩ : ∃ R, R = (k : Int) % g := ⟨_, rfl⟩
      rw [← hR] at htk hkm
      have HR := Lib.hid hR
      obtain ⟨q, hq⟩ : ∃ q : Int → Bool, q = fun c => decide ((p.frm + c) % g = R) := ⟨_, rfl⟩
      have HQ := Lib.hid hq
      have HRF : Hid (resF p g k = p.cycle.any q) := Lib.hid (by unfold resF; rw [hq, hR])
      clear hR hq
      go_wp2_with fail
      go_loopw [9, 10] (fun fv j wq => ∃ (i : Nat) (f : Bool), i ≤ p.cycle.length ∧ j = .int .i64 i ∧ fv = .bool f ∧ f = (p.cycle.take i).any q ∧ Below wr.heap.size wr wq) (fun _ j _ => p.cycle.length - (intOf j).toNat)
      case atStart => exact ⟨0, false, by omega, rfl, rfl, by simp, Below.refl _ _⟩
      case round =>
        obtain ⟨i, f, hi, rfl, rfl, hf, hbq⟩ := hrel
        have HBQ := Lib.hid hbq
        have hszq := hbq.size
        have HF := Lib.hid hf
        have hbx := (HBX.out.below HB.out).below hbq
        have q0 := (hbx.cells 0).1
        have q1 := (hbx.cells 1).1
        have q2 := (hbx.cells 2).1
        have q3 := (hbx.cells 3).1
        have hlb := hbx.lt
        clear hf
        by_cases hlt2 : i < p.cycle.length
        · have hiI : (i : Int) < p.cycle.length := by omega
          cases f with
          | true =>
            have HRT : Hid (resF p g k = true) := Lib.hid (by rw [HRF.out]; exact any_take_full q HF.out.symm)
            have HOW2 := Lib.hid (HOWN.out.ext hbq)
            clear hbq hbx
            go_wp2_with (at_builtin; refine append_list (by rfl) _ _ (by rfl) W1.heap.size (.slice va L.length vc) L k (by rfl) (HOW2.out.ext (by (repeat' (with_reducible first | assumption | exact Ext.refl _ | refine Ext.alloc ?_ _ | refine Ext.drew ?_ | refine Ext.drewN ?_ _ | (refine Ext.setCell ?_ (by first | (simp; done) | (simp; omega) | omega) _) | refine Ext.trans ?_ (by assumption))))) _ _ (by rfl) (by first | (simp; done) | exact ((BoxIs.new _ #[.int .i64 (k : Int)] _).cells 0).1) ⟨by omega, by omega⟩ (by omega) (by simp; omega) ?_; intro gg cap w6 hown6 hgrow6 hbel6)
            go_roundw
            case rel =>
              refine ⟨k + 1, by omega, by go_num, ?_, (((HB.out.trans (HBQ.out.mono (by omega)))).alloc (by omega) _).trans hbel6⟩
              rw [HSU.out, HRT.out, if_pos rfl]; exact hown6
            case measure => simp [intOf]; omega
          | false =>
            obtain ⟨⟨a', c', he, _, _, h3⟩, _, hrg⟩ := ((H2.out.ext HE.out).ext HB.out).ext hbq
            injection he with e1 _ e2
            subst e1; subst e2
            rcases h3 with h3 | ⟨b, o, rfl, hcell⟩
            · rw [h3] at hlt2; simp at hlt2
            have hcl := hcell i hlt2
            have hyb := HC.out.2 _ (getD_mem hlt2)
            have HTS := Lib.hid (any_take_succ q hlt2)
            generalize p.cycle.getD i 0 = y at *
            have hty : (p.frm + y).tmod g = (p.frm + y) % g := Int.tmod_eq_emod_of_nonneg (by omega)
            have HY : Hid (q y = ((p.frm + y) % g == R)) := Lib.hid (by rw [HQ.out]; rfl)
            clear hcell hbx hbq hrg
            go_wp2_with fail
            go_quiet (fail)
            go_wp2_with fail
            go_roundw
            case rel => exact ⟨i + 1, _, by omega, by go_num, rfl, by rw [HTS.out, ← HF.out, HY.out]; simp, by have hb := HBQ.out; (repeat' (with_reducible first | assumption | exact Ext.refl _ | refine Ext.alloc ?_ _ | refine Ext.drew ?_ | refine Ext.drewN ?_ _ | (refine Ext.setCell ?_ (by first | (simp; done) | (simp; omega) | omega) _) | refine Ext.trans ?_ (by assumption)))⟩
            case measure => simp [intOf]; omega
        · obtain rfl : i = p.cycle.length := by omega
          rw [List.take_length] at HF
          have HOW2 := Lib.hid (HOWN.out.ext hbq)
          clear hbq hbx
          cases f with
          | true =>
            have HRT : Hid (resF p g k = true) := Lib.hid (by rw [HRF.out]; exact HF.out.symm)
            go_wp2_with (at_builtin; refine append_list (by rfl) _ _ (by rfl) W1.heap.size (.slice va L.length vc) L k (by rfl) (HOW2.out.ext (by (repeat' (with_reducible first | assumption | exact Ext.refl _ | refine Ext.alloc ?_ _ | refine Ext.drew ?_ | refine Ext.drewN ?_ _ | (refine Ext.setCell ?_ (by first | (simp; done) | (simp; omega) | omega) _) | refine Ext.trans ?_ (by assumption))))) _ _ (by rfl) (by first | (simp; done) | exact ((BoxIs.new _ #[.int .i64 (k : Int)] _).cells 0).1) ⟨by omega, by omega⟩ (by omega) (by simp; omega) ?_; intro gg cap w6 hown6 hgrow6 hbel6)
            go_roundw
            case rel =>
              refine ⟨k + 1, by omega, by go_num, ?_, (((HB.out.trans (HBQ.out.mono (by omega)))).alloc (by omega) _).trans hbel6⟩
              rw [HSU.out, HRT.out, if_pos rfl]; exact hown6
            case measure => simp [intOf]; omega
          | false =>
            have HRT : Hid (resF p g k = false) := Lib.hid (by rw [HRF.out]; exact HF.out.symm)
            go_wp2_with fail
            go_roundw
            case rel =>
              refine ⟨k + 1, by omega, by go_num, ?_, HB.out.trans (HBQ.out.mono (by omega))⟩
              rw [HSU.out, HRT.out, if_neg (by simp), List.append_nil]; exact HOW2.out
            case measure => simp [intOf]; omega
    · obtain rfl : k = M := by omega
      go_wp2_with fail
      go_ret2
      refine ⟨.slice va L.length vc, rfl, ?_, HE.out.trans (HB.out.mono (by omega))⟩
      rw [HRES.out, ← HL.out]
      exact HOWN.out.ints

end Go.Proofs.Ytjilkhhokkncoaa
