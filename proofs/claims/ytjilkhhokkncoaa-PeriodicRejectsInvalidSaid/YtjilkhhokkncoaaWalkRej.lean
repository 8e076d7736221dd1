/- Walks: PeriodicRejectsInvalid (package kalendslaw04). -/
import Derived.Test.YtjilkhhokkncoaaWalkBad
import Derived.Test.YtjilkhhokkncoaaWalkMb
import Derived.Deep.Cut
import Derived.Deep.CutBlock
import Derived.Deep.DeepCutAuto
set_option linter.unusedVariables false
set_option linter.unusedSimpArgs false
namespace Go.Proofs.Ytjilkhhokkncoaa
open Go.RowKit Go.Maps Kal

theorem keep_y {W W' : World} {b2 b3 z3 : Nat} {h c : Value} {y : Per} (hby : BoxIs W b3 #[h, .int .i64 y.frm, .int .i64 y.period, c] 28) (hpy : PerIn W z3 b3 h c y) (h1 : b2 < z3) (h2 : z3 ≤ b3)
    (hk : ∀ k, b2 < k → k < W.heap.size → W'.heap[k]? = W.heap[k]?) : SetB W' b3 y :=
  ⟨h, c, (hk b3 (by omega) hby.lt).trans hby, (hpy.of_blocks fun k k1 k2 => hk k (by omega) (by have := hby.lt; omega)).is⟩

theorem rise_app_no {l : List Int} {lim a : Int} (h : lim ≤ a) : risingB (-1) lim (l ++ [a]) = false := by
  rw [Bool.eq_false_iff]
  intro hr
  have := ((risingB_iff _ _ _).1 hr).2 a (by simp)
  omega
theorem rise_dup_no {l : List Int} {lim : Int} : risingB (-1) lim (l ++ [0] ++ [0]) = false := by
  rw [Bool.eq_false_iff]
  intro hr
  have h1 := ((risingB_iff _ _ _).1 hr).1
  rw [List.pairwise_append] at h1
  have := h1.2.2 0 (by simp) 0 (by simp)
  omega
theorem rise_neg_no {lim a : Int} (h : a < 0) : risingB (-1) lim [a] = false := by
  rw [Bool.eq_false_iff]
  intro hr
  have := ((risingB_iff _ _ _).1 hr).2 a (by simp)
  omega
theorem valid_cy {p : Per} (h : risingB (-1) p.period p.cycle = false) : validB p = false := by
  unfold validB; rw [h]; simp
theorem valid_hd {p : Per} (h : risingB (-1) p.frm p.head = false) : validB p = false := by
  unfold validB; rw [h]; simp
theorem valid_fr {p : Per} (h : 1099511627776 < p.frm) : validB p = false := by
  unfold validB; rw [decide_eq_false (show ¬ p.frm ≤ 1099511627776 by omega)]; simp
theorem valid_pe {p : Per} (h : p.period < 1) : validB p = false := by
  unfold validB; rw [decide_eq_false (show ¬ 1 ≤ p.period by omega)]; simp

theorem append_list2 {w : World} {ops : Array Oper} {rest : List Oper} {o : Oper} {a : Act} {Q : Exit → Act → World → Prop} (hgd : o.guard = none) (s x : Operand)
    (ho : o.op = .call { callee := .builtin .append, args := #[s, x], argTypes := #[26, 26] }) (base : Nat) (v : Value) (l : List Int) (y : Int) (hs : a.eval s = v) (hown : OwnI w base v l)
    (blk c : Nat) (hx : a.eval x = .slice (some ⟨blk, 0, none⟩) 1 c) (hnew : w.cell? ⟨blk, 0, none⟩ = some (.int .i64 y)) (hy : InI y) (hlen : l.length + 1 ≤ 17592186044416) (hbase : base ≤ w.heap.size)
    (h : ∀ g cap w', OwnI w' base (.slice (some ⟨g, 0, none⟩) (l.length + 1) cap) (l ++ [y]) → w.grownBy w' v.ownBlock → Below base w w' → (v.ownBlock = some g ∨ g = w.heap.size) → wpList Try.prog ops Q rest (a.put o.dst (.slice (some ⟨g, 0, none⟩) (l.length + 1) cap)) w') :
    wpList Try.prog ops Q (o :: rest) a w := by
  obtain ⟨i, hi, h1, h2, h3⟩ := intInfo
  refine wpList_append_lies w hgd s x 26 ho base 3 i (.int .i64 0) 1 8 Try.underlying26 hi h1 h2 h3 rfl (by omega) v l.length (l.map (Value.int .i64)) hs hown.row ⟨blk, 0, none⟩ 1 c [.int .i64 y] hx rfl ?_ (by simp [Value.oneCell']) (by omega) (by unfold maxLen; omega) (by omega) hbase _ rfl ?_
  · intro j u hu
    match j, hu with
    | 0, hu => simp at hu; subst hu; exact hnew
  · intro g cap w' hown' hgrow hg9 _
    exact h g cap w' (OwnI.appended hown.rng hy hlen hown') hgrow (hown.below_grown (W0 := w) (.inr trivial) hbase hgrow) hg9

set_option maxRecDepth 100000 in
set_option maxHeartbeats 8000000 in
theorem PeriodicRejectsInvalid_any (va : Value) (sp day : Int) (w : World) (hra : RawIs w va) (sp0 : 0 ≤ sp) (sp1 : sp ≤ 255) (dy0 : -9223372036854775808 ≤ day) (dy1 : day ≤ 9223372036854775807) :
    Calls Try.prog 12 #[va, .int .u8 sp, .int .i64 day] w fun e w' => e = .returned (.bool true) ∧ Below w.heap.size w w' := by
  obtain ⟨hva, cva, hla, cla, fa, ta, rfl, hBa, hCa, f0a, f1a, t0a, t1a⟩ := hra
  have HBa := Lib.hid hBa
  have HCa := Lib.hid hCa
  obtain ⟨⟨a1a, c1a, rfl, jA⟩, jB, jC⟩ := hBa
  clear jA jB jC
  obtain ⟨⟨a2a, c2a, rfl, jA⟩, jB, jC⟩ := hCa
  clear jA jB jC
  go_enter Try.func12, Try.ntmps12
  go_upto_region 1 with (fail)
  refine wp_abs (F := fun U => BoxIs U (w.heap.size) #[.slice a1a hla.length c1a, .int .u8 fa, .int .u8 ta, .slice a2a cla.length c2a] 24 ∧ Sets U [] ∧ Below w.heap.size w U) ⟨by (first | (refine BoxIs.at ?_; simp; done) | (refine (BoxIs.at ?_).alloc _; simp; done) | (refine ((BoxIs.at ?_).alloc _).alloc _; simp; done) | (refine (((BoxIs.at ?_).alloc _).alloc _).alloc _; simp; done) | (refine ((((BoxIs.at ?_).alloc _).alloc _).alloc _).alloc _; simp; done) | (refine (((((BoxIs.at ?_).alloc _).alloc _).alloc _).alloc _).alloc _; simp; done) | (refine ((((((BoxIs.at ?_).alloc _).alloc _).alloc _).alloc _).alloc _).alloc _; simp; done) | (refine (((((((BoxIs.at ?_).alloc _).alloc _).alloc _).alloc _).alloc _).alloc _).alloc _; simp; done) | (refine ((((((((BoxIs.at ?_).alloc _).alloc _).alloc _).alloc _).alloc _).alloc _).alloc _).alloc _; simp; done) | (refine (((((((((BoxIs.at ?_).alloc _).alloc _).alloc _).alloc _).alloc _).alloc _).alloc _).alloc _).alloc _; simp; done) | (refine ((((((((((BoxIs.at ?_).alloc _).alloc _).alloc _).alloc _).alloc _).alloc _).alloc _).alloc _).alloc _).alloc _; simp; done) | (refine (((((((((((BoxIs.at ?_).alloc _).alloc _).alloc _).alloc _).alloc _).alloc _).alloc _).alloc _).alloc _).alloc _).alloc _; simp; done)), Sets.nil _, by (repeat' (with_reducible first | assumption | exact Ext.refl _ | refine Ext.alloc ?_ _ | refine Ext.drew ?_ | refine Ext.drewN ?_ _ | (refine Ext.setCell ?_ (by first | (simp; done) | (simp; omega) | omega) _) | refine Ext.trans ?_ (by assumption)))⟩ ?_
  rintro W1 ⟨hWa, hS, hE⟩
  go_upto_region 2 with (go_at_call 13; refine (sanity_any _).mono ?_; rintro e u1 ⟨rfl, k1⟩)
  refine wp_abs (F := fun U => BoxIs U (w.heap.size) #[.slice a1a hla.length c1a, .int .u8 fa, .int .u8 ta, .slice a2a cla.length c2a] 24 ∧ Sets U [] ∧ Below w.heap.size w U) ⟨hWa.below (by (repeat' (with_reducible first | assumption | exact Ext.refl _ | refine Ext.alloc ?_ _ | refine Ext.drew ?_ | refine Ext.drewN ?_ _ | (refine Ext.setCell ?_ (by first | (simp; done) | (simp; omega) | omega) _) | refine Ext.trans ?_ (by assumption)))), hS.below (by (repeat' (with_reducible first | assumption | exact Ext.refl _ | refine Ext.alloc ?_ _ | refine Ext.drew ?_ | refine Ext.drewN ?_ _ | (refine Ext.setCell ?_ (by first | (simp; done) | (simp; omega) | omega) _) | refine Ext.trans ?_ (by assumption)))), by (repeat' (with_reducible first | assumption | exact Ext.refl _ | refine Ext.alloc ?_ _ | refine Ext.drew ?_ | refine Ext.drewN ?_ _ | (refine Ext.setCell ?_ (by first | (simp; done) | (simp; omega) | omega) _) | refine Ext.trans ?_ (by assumption)))⟩ ?_
  clear hWa hS hE k1
  rintro W2 ⟨hWa, hS, hE⟩
  have r0 := (hWa.cells 0).1
  have r1 := (hWa.cells 1).1
  have r2 := (hWa.cells 2).1
  have r3 := (hWa.cells 3).1
  go_upto_region 3 with (go_at_call 14; refine (Made_own _ _ hla cla fa ta _ (HBa.out.ext (by (repeat' (with_reducible first | assumption | exact Ext.refl _ | refine Ext.alloc ?_ _ | refine Ext.drew ?_ | refine Ext.drewN ?_ _ | (refine Ext.setCell ?_ (by first | (simp; done) | (simp; omega) | omega) _) | refine Ext.trans ?_ (by assumption))))) (HCa.out.ext (by (repeat' (with_reducible first | assumption | exact Ext.refl _ | refine Ext.alloc ?_ _ | refine Ext.drew ?_ | refine Ext.drewN ?_ _ | (refine Ext.setCell ?_ (by first | (simp; done) | (simp; omega) | omega) _) | refine Ext.trans ?_ (by assumption))))) f0a f1a t0a t1a).mono ?_; rintro e uX ⟨hX, cX, x, rfl, oX, wfX, frX, prX, ⟨zX, zhX, zcX⟩, kX⟩; obtain ⟨x1X, y1X, x2X, y2X, rfl, rfl⟩ := oX.form)
  have SX : Hid (Sm 20 12 x) := Lib.hid ⟨wfX, frX, prX⟩
  refine wp_abs (F := fun U => BoxIs U (w.heap.size) #[.slice a1a hla.length c1a, .int .u8 fa, .int .u8 ta, .slice a2a cla.length c2a] 24 ∧ BoxIs U uX.heap.size #[.slice x1X x.head.length y1X, .int .i64 x.frm, .int .i64 x.period, .slice x2X x.cycle.length y2X] 28 ∧ OwnI U w.heap.size (.slice x1X x.head.length y1X) x.head ∧ OwnI U w.heap.size (.slice x2X x.cycle.length y2X) x.cycle ∧ (∀ k, (Value.slice x1X x.head.length y1X).ownBlock = some k → k < uX.heap.size) ∧ (∀ k, (Value.slice x2X x.cycle.length y2X).ownBlock = some k → k < uX.heap.size) ∧ uX.heap.size < U.heap.size ∧ Below w.heap.size w U)
    ⟨hWa.below (by (repeat' (with_reducible first | assumption | exact Ext.refl _ | refine Ext.alloc ?_ _ | refine Ext.drew ?_ | refine Ext.drewN ?_ _ | (refine Ext.setCell ?_ (by first | (simp; done) | (simp; omega) | omega) _) | refine Ext.trans ?_ (by assumption)))), by (first | (refine BoxIs.at ?_; simp; done) | (refine (BoxIs.at ?_).alloc _; simp; done) | (refine ((BoxIs.at ?_).alloc _).alloc _; simp; done) | (refine (((BoxIs.at ?_).alloc _).alloc _).alloc _; simp; done) | (refine ((((BoxIs.at ?_).alloc _).alloc _).alloc _).alloc _; simp; done) | (refine (((((BoxIs.at ?_).alloc _).alloc _).alloc _).alloc _).alloc _; simp; done) | (refine ((((((BoxIs.at ?_).alloc _).alloc _).alloc _).alloc _).alloc _).alloc _; simp; done) | (refine (((((((BoxIs.at ?_).alloc _).alloc _).alloc _).alloc _).alloc _).alloc _).alloc _; simp; done) | (refine ((((((((BoxIs.at ?_).alloc _).alloc _).alloc _).alloc _).alloc _).alloc _).alloc _).alloc _; simp; done) | (refine (((((((((BoxIs.at ?_).alloc _).alloc _).alloc _).alloc _).alloc _).alloc _).alloc _).alloc _).alloc _; simp; done) | (refine ((((((((((BoxIs.at ?_).alloc _).alloc _).alloc _).alloc _).alloc _).alloc _).alloc _).alloc _).alloc _).alloc _; simp; done) | (refine (((((((((((BoxIs.at ?_).alloc _).alloc _).alloc _).alloc _).alloc _).alloc _).alloc _).alloc _).alloc _).alloc _).alloc _; simp; done)), (oX.hd.ext (by (repeat' (with_reducible first | assumption | exact Ext.refl _ | refine Ext.alloc ?_ _ | refine Ext.drew ?_ | refine Ext.drewN ?_ _ | (refine Ext.setCell ?_ (by first | (simp; done) | (simp; omega) | omega) _) | refine Ext.trans ?_ (by assumption))))).mono (by have h2 := hE.size; omega), (oX.cy.ext (by (repeat' (with_reducible first | assumption | exact Ext.refl _ | refine Ext.alloc ?_ _ | refine Ext.drew ?_ | refine Ext.drewN ?_ _ | (refine Ext.setCell ?_ (by first | (simp; done) | (simp; omega) | omega) _) | refine Ext.trans ?_ (by assumption))))).mono (by have h2 := hE.size; omega), fun k hk => (oX.hd.lt k hk).2, fun k hk => (oX.cy.lt k hk).2, by simp, by (repeat' (with_reducible first | assumption | exact Ext.refl _ | refine Ext.alloc ?_ _ | refine Ext.drew ?_ | refine Ext.drewN ?_ _ | (refine Ext.setCell ?_ (by first | (simp; done) | (simp; omega) | omega) _) | refine Ext.trans ?_ (by assumption)))⟩ ?_
  have hwb : w.heap.size ≤ uX.heap.size := by have h1 := kX.size; have h2 := hE.size; omega
  clear hWa hS hE wfX frX prX oX kX r0 r1 r2 r3
  generalize uX.heap.size = b2 at *
  rintro W3 ⟨hWa, hbx, hoh, hoc, hlh, hlc, hb2, hE⟩
  have r0 := (hWa.cells 0).1
  have r1 := (hWa.cells 1).1
  have r2 := (hWa.cells 2).1
  have r3 := (hWa.cells 3).1
  go_upto_region 4 with (go_at_call 14; refine (Made_own _ _ hla cla fa ta _ (HBa.out.ext (by (repeat' (with_reducible first | assumption | exact Ext.refl _ | refine Ext.alloc ?_ _ | refine Ext.drew ?_ | refine Ext.drewN ?_ _ | (refine Ext.setCell ?_ (by first | (simp; done) | (simp; omega) | omega) _) | refine Ext.trans ?_ (by assumption))))) (HCa.out.ext (by (repeat' (with_reducible first | assumption | exact Ext.refl _ | refine Ext.alloc ?_ _ | refine Ext.drew ?_ | refine Ext.drewN ?_ _ | (refine Ext.setCell ?_ (by first | (simp; done) | (simp; omega) | omega) _) | refine Ext.trans ?_ (by assumption))))) f0a f1a t0a t1a).mono ?_; rintro e uY ⟨hY, cY, y, rfl, oY, wfY, frY, prY, ⟨zY, zhY, zcY⟩, kY⟩; obtain ⟨x1Y, y1Y, x2Y, y2Y, rfl, rfl⟩ := oY.form)
  have Sy : Hid (Sm 20 12 y) := Lib.hid ⟨wfY, frY, prY⟩
  have yz := kY.size
  refine wp_abs (F := fun U => BoxIs U b2 #[.slice x1X x.head.length y1X, .int .i64 x.frm, .int .i64 x.period, .slice x2X x.cycle.length y2X] 28 ∧ OwnI U w.heap.size (.slice x1X x.head.length y1X) x.head ∧ OwnI U w.heap.size (.slice x2X x.cycle.length y2X) x.cycle ∧ BoxIs U uY.heap.size #[.slice x1Y y.head.length y1Y, .int .i64 y.frm, .int .i64 y.period, .slice x2Y y.cycle.length y2Y] 28 ∧ PerIn U W3.heap.size uY.heap.size (.slice x1Y y.head.length y1Y) (.slice x2Y y.cycle.length y2Y) y ∧ uY.heap.size < U.heap.size ∧ Below w.heap.size w U)
    ⟨hbx.below (by (repeat' (with_reducible first | assumption | exact Ext.refl _ | refine Ext.alloc ?_ _ | refine Ext.drew ?_ | refine Ext.drewN ?_ _ | (refine Ext.setCell ?_ (by first | (simp; done) | (simp; omega) | omega) _) | refine Ext.trans ?_ (by assumption)))), hoh.ext (by (repeat' (with_reducible first | assumption | exact Ext.refl _ | refine Ext.alloc ?_ _ | refine Ext.drew ?_ | refine Ext.drewN ?_ _ | (refine Ext.setCell ?_ (by first | (simp; done) | (simp; omega) | omega) _) | refine Ext.trans ?_ (by assumption)))), hoc.ext (by (repeat' (with_reducible first | assumption | exact Ext.refl _ | refine Ext.alloc ?_ _ | refine Ext.drew ?_ | refine Ext.drewN ?_ _ | (refine Ext.setCell ?_ (by first | (simp; done) | (simp; omega) | omega) _) | refine Ext.trans ?_ (by assumption)))), by (first | (refine BoxIs.at ?_; simp; done) | (refine (BoxIs.at ?_).alloc _; simp; done) | (refine ((BoxIs.at ?_).alloc _).alloc _; simp; done) | (refine (((BoxIs.at ?_).alloc _).alloc _).alloc _; simp; done) | (refine ((((BoxIs.at ?_).alloc _).alloc _).alloc _).alloc _; simp; done) | (refine (((((BoxIs.at ?_).alloc _).alloc _).alloc _).alloc _).alloc _; simp; done) | (refine ((((((BoxIs.at ?_).alloc _).alloc _).alloc _).alloc _).alloc _).alloc _; simp; done) | (refine (((((((BoxIs.at ?_).alloc _).alloc _).alloc _).alloc _).alloc _).alloc _).alloc _; simp; done) | (refine ((((((((BoxIs.at ?_).alloc _).alloc _).alloc _).alloc _).alloc _).alloc _).alloc _).alloc _; simp; done) | (refine (((((((((BoxIs.at ?_).alloc _).alloc _).alloc _).alloc _).alloc _).alloc _).alloc _).alloc _).alloc _; simp; done) | (refine ((((((((((BoxIs.at ?_).alloc _).alloc _).alloc _).alloc _).alloc _).alloc _).alloc _).alloc _).alloc _).alloc _; simp; done) | (refine (((((((((((BoxIs.at ?_).alloc _).alloc _).alloc _).alloc _).alloc _).alloc _).alloc _).alloc _).alloc _).alloc _).alloc _; simp; done)), by have h7 := oY.inn; (repeat' (with_reducible first | assumption | refine PerIn.alloc ?_ _ ?_ | refine PerIn.drew ?_ | refine PerIn.drewN ?_ _ | refine PerIn.set ?_ _ ?_ | refine PerIn.below ?_ (by assumption) ?_ | omega | (simp; done) | (simp; omega))), by simp, by (repeat' (with_reducible first | assumption | exact Ext.refl _ | refine Ext.alloc ?_ _ | refine Ext.drew ?_ | refine Ext.drewN ?_ _ | (refine Ext.setCell ?_ (by first | (simp; done) | (simp; omega) | omega) _) | refine Ext.trans ?_ (by assumption)))⟩ ?_
  have hz3 : W3.heap.size ≤ uY.heap.size := by omega
  clear hWa hE wfY frY prY oY kY r0 r1 r2 r3 hbx hoh hoc zhY zcY
  generalize uY.heap.size = b3 at *
  generalize W3.heap.size = z3 at *
  rintro W4 ⟨hbx, hoh, hoc, hby, hpy, hb3, hE⟩
  have k0 := Int.emod_nonneg sp (show (6 : Int) ≠ 0 by omega)
  have k1 := Int.emod_lt_of_pos sp (show (0 : Int) < 6 by omega)
  have d0 : 0 ≤ sp / 6 ∧ sp / 6 ≤ 42 := by omega
  have SXw := SX.out.wf
  have lx1 := SXw.head.length_le SXw.frm
  have lx2 := SXw.cyc.length_le (show (0 : Int) ≤ x.period by have := SXw.per; omega)
  have lx3 := SX.out.frm
  have lx4 := SX.out.per
  have lx5 := SXw.frm
  have lx6 := SXw.per
  clear SXw
  go_upto_region 4 with (fail)
  go_cut [39] (fun s39 wx => s39 = .int .u8 (sp % 6) ∧ wx = W4)
  case first =>
    go_wp2_with fail
    go_meet
    exact ⟨rfl, rfl⟩
  obtain ⟨rfl, rfl⟩ := hcut
  go_upto_block 0 with (fail)
  go_cut [39] (fun s39 wx => ∃ pp : Per, Sets wx [(b3, y), (b2, pp)] ∧ validB pp = false ∧ Below w.heap.size w wx)
  case first =>
    have f0 := (hbx.cells 0)
    have f1 := (hbx.cells 1)
    have f2 := (hbx.cells 2)
    have f3 := (hbx.cells 3)
    have n0 := (hby.lt)
    generalize sp % 6 = km at *
    have hcase : km = 0 ∨ km = 1 ∨ km = 2 ∨ km = 3 ∨ km = 4 ∨ km = 5 := by omega
    clear k0 k1
    have HOH := Lib.hid hoh
    have HOC := Lib.hid hoc
    have HZH := Lib.hid zhX
    have HZC := Lib.hid zcX
    have HLH := Lib.hid hlh
    have HLC := Lib.hid hlc
    have HE := Lib.hid hE
    clear zhX zcX hoh hoc hlh hlc hE
    rcases hcase with rfl | rfl | rfl | rfl | rfl | rfl
    · go_wp2_with fail
      go_meet
      refine ⟨⟨x.head, x.frm, -(sp / 6), x.cycle⟩, Sets.cons (keep_y hby hpy hb2 hz3 fun k h1 h2 => Below.heap_setCell _ _ _ k (by simp; omega)) (Sets.cons ⟨_, _, heap_set_at 2 _ hbx, ⟨(HOH.out.kept_lt fun q hq => ⟨Below.heap_setCell _ _ _ q (by have := HLH.out q hq; simp; omega), by simp⟩).ints, (HOC.out.kept_lt fun q hq => ⟨Below.heap_setCell _ _ _ q (by have := HLC.out q hq; simp; omega), by simp⟩).ints⟩⟩ (Sets.nil _)), valid_pe (show -(sp / 6) < 1 by omega), ?_⟩
      have hE := HE.out
      exact hE.setCell (p := ⟨b2, 2, none⟩) hwb _
    · go_wp2_with (at_builtin; refine append_list2 (by rfl) _ _ (by rfl) w.heap.size (.slice x2X x.cycle.length y2X) x.cycle (x.period + sp / 6) (by rfl) (HOC.out.ext (by (repeat' (with_reducible first | assumption | exact Ext.refl _ | refine Ext.alloc ?_ _ | refine Ext.drew ?_ | refine Ext.drewN ?_ _ | (refine Ext.setCell ?_ (by first | (simp; done) | (simp; omega) | omega) _) | refine Ext.trans ?_ (by assumption))))) _ _ (by rfl) (by first | (simp; done) | exact ((BoxIs.new _ #[.int .i64 (x.period + sp / 6)] _).cells 0).1) ⟨by omega, by omega⟩ (by first | omega | (simp; omega)) (by have h2 := HE.out.size; simp; omega) ?_; intro g5 cap5 w5 hown5 hgrow5 hbel5 hg5; have hb5 : BoxIs w5 b2 #[.slice x1X x.head.length y1X, .int .i64 x.frm, .int .i64 x.period, .slice x2X x.cycle.length y2X] 28 := (hgrow5.block _ (by simp; omega) (fun e => by have h7 := HLC.out _ e.symm; omega)).trans (hbx.below (by (repeat' (with_reducible first | assumption | exact Ext.refl _ | refine Ext.alloc ?_ _ | refine Ext.drew ?_ | refine Ext.drewN ?_ _ | (refine Ext.setCell ?_ (by first | (simp; done) | (simp; omega) | omega) _) | refine Ext.trans ?_ (by assumption))))); have g0 := hb5.cells 3)
      go_meet
      have hr : ∀ k, k < wc.heap.size → (∀ q, (Value.slice x2X x.cycle.length y2X).ownBlock = some q → k ≠ q) → w5.heap[k]? = wc.heap[k]? := fun k h1 h2 => (hgrow5.block k (by simp; omega) (fun e => h2 k e.symm rfl)).trans (Below.heap_alloc _ _ _ h1)
      have hs5 := hgrow5.size
      have hs6 : wc.heap.size < w5.heap.size := by simp at hs5; omega
      have hgb : g5 ≠ b2 := by
        rcases hg5 with h | h
        · have := HLC.out g5 h; omega
        · simp at h; omega
      refine ⟨⟨x.head, x.frm, x.period, x.cycle ++ [x.period + sp / 6]⟩, Sets.cons (keep_y hby hpy hb2 hz3 fun k h1 h2 => (Below.heap_setCell _ _ _ k (by simp; omega)).trans (hr k h2 fun q hq => by have := HLC.out q hq; omega)) (Sets.cons ⟨_, _, heap_set_at 3 _ hb5, ⟨(HOH.out.kept_lt fun q hq => ⟨(Below.heap_setCell _ _ _ q (by have := HLH.out q hq; simp; omega)).trans (hr q (by have := HLH.out q hq; omega) fun r hr2 => by have h1 := HZH.out q hq; have h2 := HZC.out r hr2; omega), by simp; omega⟩).ints, ?_⟩⟩ (Sets.nil _)), valid_cy (rise_app_no (show x.period ≤ x.period + sp / 6 by omega)), ?_⟩
      · have h9 := (hown5.kept_lt (w' := w5.setCell ⟨b2, 3, none⟩ (.slice (some ⟨g5, 0, none⟩) (x.cycle.length + 1) cap5)) fun q hq => ⟨Below.heap_setCell _ _ _ q (by have e : g5 = q := (by simpa [Value.ownBlock] using hq); simp; omega), by simp⟩).ints
        have e : (x.cycle ++ [x.period + sp / 6]).length = x.cycle.length + 1 := by simp
        simpa [e] using h9
      · exact ((HE.out.alloc (by have h2 := HE.out.size; omega) _).trans hbel5).setCell (p := ⟨b2, 3, none⟩) hwb _
    · go_wp2_with (at_builtin; refine append_list2 (by rfl) _ _ (by rfl) w.heap.size (.slice x1X x.head.length y1X) x.head (x.frm + sp / 6) (by rfl) (HOH.out.ext (by (repeat' (with_reducible first | assumption | exact Ext.refl _ | refine Ext.alloc ?_ _ | refine Ext.drew ?_ | refine Ext.drewN ?_ _ | (refine Ext.setCell ?_ (by first | (simp; done) | (simp; omega) | omega) _) | refine Ext.trans ?_ (by assumption))))) _ _ (by rfl) (by first | (simp; done) | exact ((BoxIs.new _ #[.int .i64 (x.frm + sp / 6)] _).cells 0).1) ⟨by omega, by omega⟩ (by first | omega | (simp; omega)) (by have h2 := HE.out.size; simp; omega) ?_; intro g5 cap5 w5 hown5 hgrow5 hbel5 hg5; have hb5 : BoxIs w5 b2 #[.slice x1X x.head.length y1X, .int .i64 x.frm, .int .i64 x.period, .slice x2X x.cycle.length y2X] 28 := (hgrow5.block _ (by simp; omega) (fun e => by have h7 := HLH.out _ e.symm; omega)).trans (hbx.below (by (repeat' (with_reducible first | assumption | exact Ext.refl _ | refine Ext.alloc ?_ _ | refine Ext.drew ?_ | refine Ext.drewN ?_ _ | (refine Ext.setCell ?_ (by first | (simp; done) | (simp; omega) | omega) _) | refine Ext.trans ?_ (by assumption))))); have g0 := hb5.cells 0)
      go_meet
      have hr : ∀ k, k < wc.heap.size → (∀ q, (Value.slice x1X x.head.length y1X).ownBlock = some q → k ≠ q) → w5.heap[k]? = wc.heap[k]? := fun k h1 h2 => (hgrow5.block k (by simp; omega) (fun e => h2 k e.symm rfl)).trans (Below.heap_alloc _ _ _ h1)
      have hs5 := hgrow5.size
      have hs6 : wc.heap.size < w5.heap.size := by simp at hs5; omega
      have hgb : g5 ≠ b2 := by
        rcases hg5 with h | h
        · have := HLH.out g5 h; omega
        · simp at h; omega
      refine ⟨⟨x.head ++ [x.frm + sp / 6], x.frm, x.period, x.cycle⟩, Sets.cons (keep_y hby hpy hb2 hz3 fun k h1 h2 => (Below.heap_setCell _ _ _ k (by simp; omega)).trans (hr k h2 fun q hq => by have := HLH.out q hq; omega)) (Sets.cons ⟨_, _, heap_set_at 0 _ hb5, ⟨?_, (HOC.out.kept_lt fun q hq => ⟨(Below.heap_setCell _ _ _ q (by have := HLC.out q hq; simp; omega)).trans (hr q (by have := HLC.out q hq; omega) fun r hr2 => by have h1 := HZC.out q hq; have h2 := HZH.out r hr2; omega), by simp; omega⟩).ints⟩⟩ (Sets.nil _)), valid_hd (rise_app_no (show x.frm ≤ x.frm + sp / 6 by omega)), ?_⟩
      · have h9 := (hown5.kept_lt (w' := w5.setCell ⟨b2, 0, none⟩ (.slice (some ⟨g5, 0, none⟩) (x.head.length + 1) cap5)) fun q hq => ⟨Below.heap_setCell _ _ _ q (by have e : g5 = q := (by simpa [Value.ownBlock] using hq); simp; omega), by simp⟩).ints
        have e : (x.head ++ [x.frm + sp / 6]).length = x.head.length + 1 := by simp
        simpa [e] using h9
      · exact ((HE.out.alloc (by have h2 := HE.out.size; omega) _).trans hbel5).setCell (p := ⟨b2, 0, none⟩) hwb _
    · go_wp2_with fail
      go_meet
      refine ⟨⟨x.head, 1099511627777 + sp, x.period, x.cycle⟩, Sets.cons (keep_y hby hpy hb2 hz3 fun k h1 h2 => Below.heap_setCell _ _ _ k (by simp; omega)) (Sets.cons ⟨_, _, heap_set_at 1 _ hbx, ⟨(HOH.out.kept_lt fun q hq => ⟨Below.heap_setCell _ _ _ q (by have := HLH.out q hq; simp; omega), by simp⟩).ints, (HOC.out.kept_lt fun q hq => ⟨Below.heap_setCell _ _ _ q (by have := HLC.out q hq; simp; omega), by simp⟩).ints⟩⟩ (Sets.nil _)), valid_fr (show 1099511627776 < 1099511627777 + sp by omega), ?_⟩
      have hE := HE.out
      exact hE.setCell (p := ⟨b2, 1, none⟩) hwb _
    · go_upto_region 15 with (at_builtin; refine append_list2 (by rfl) _ _ (by rfl) w.heap.size (.slice x2X x.cycle.length y2X) x.cycle (0) (by rfl) (HOC.out.ext (by (repeat' (with_reducible first | assumption | exact Ext.refl _ | refine Ext.alloc ?_ _ | refine Ext.drew ?_ | refine Ext.drewN ?_ _ | (refine Ext.setCell ?_ (by first | (simp; done) | (simp; omega) | omega) _) | refine Ext.trans ?_ (by assumption))))) _ _ (by rfl) (by first | (simp; done) | exact ((BoxIs.new _ #[.int .i64 (0)] _).cells 0).1) ⟨by omega, by omega⟩ (by first | omega | (simp; omega)) (by have h2 := HE.out.size; simp; omega) ?_; intro g5 cap5 w5 hown5 hgrow5 hbel5 hg5; have hb5 : BoxIs w5 b2 #[.slice x1X x.head.length y1X, .int .i64 x.frm, .int .i64 x.period, .slice x2X x.cycle.length y2X] 28 := (hgrow5.block _ (by simp; omega) (fun e => by have h7 := HLC.out _ e.symm; omega)).trans (hbx.below (by (repeat' (with_reducible first | assumption | exact Ext.refl _ | refine Ext.alloc ?_ _ | refine Ext.drew ?_ | refine Ext.drewN ?_ _ | (refine Ext.setCell ?_ (by first | (simp; done) | (simp; omega) | omega) _) | refine Ext.trans ?_ (by assumption))))); have g0 := hb5.cells 3)
      have hr : ∀ k, k < wc.heap.size → (∀ q, (Value.slice x2X x.cycle.length y2X).ownBlock = some q → k ≠ q) → w5.heap[k]? = wc.heap[k]? := fun k h1 h2 => (hgrow5.block k (by simp; omega) (fun e => h2 k e.symm rfl)).trans (Below.heap_alloc _ _ _ h1)
      have hs5 := hgrow5.size
      have hs6 : wc.heap.size < w5.heap.size := by simp at hs5; omega
      have hgb : (Value.slice x2X x.cycle.length y2X).ownBlock = some g5 ∨ g5 = wc.heap.size + 1 := by
        rcases hg5 with h | h
        · exact .inl h
        · right; simpa using h
      have hgn : g5 ≠ b2 := by
        rcases hgb with h | h
        · have := HLC.out g5 h; omega
        · omega
      have hgy : ∀ k, b2 < k → k < wc.heap.size → k ≠ g5 := fun k h1 h2 => by
        rcases hgb with h | h
        · have := HLC.out g5 h; omega
        · omega
      have hgh : ∀ k, (Value.slice x1X x.head.length y1X).ownBlock = some k → k ≠ g5 := fun k hk => by
        have h1 := HZH.out k hk
        have h3 := HLH.out k hk
        rcases hgb with h | h
        · have h2 := HZC.out g5 h; omega
        · omega
      have hb6 : BoxIs (w5.setCell ⟨b2, 3, none⟩ (.slice (some ⟨g5, 0, none⟩) (x.cycle.length + 1) cap5)) b2 #[.slice x1X x.head.length y1X, .int .i64 x.frm, .int .i64 x.period, .slice (some ⟨g5, 0, none⟩) (x.cycle.length + 1) cap5] 28 := heap_set_at 3 _ hb5
      have ho6 : OwnI (w5.setCell ⟨b2, 3, none⟩ (.slice (some ⟨g5, 0, none⟩) (x.cycle.length + 1) cap5)) w.heap.size (.slice (some ⟨g5, 0, none⟩) (x.cycle.length + 1) cap5) (x.cycle ++ [0]) := hown5.kept_lt fun q hq => ⟨Below.heap_setCell _ _ _ q (by have e : g5 = q := (by simpa [Value.ownBlock] using hq); simp; omega), by simp⟩
      have hk6 : ∀ k, k < wc.heap.size → k ≠ b2 → (∀ q, (Value.slice x2X x.cycle.length y2X).ownBlock = some q → k ≠ q) → (w5.setCell ⟨b2, 3, none⟩ (.slice (some ⟨g5, 0, none⟩) (x.cycle.length + 1) cap5)).heap[k]? = wc.heap[k]? := fun k h1 h2 h3 => (Below.heap_setCell _ _ _ k (by simpa using h2)).trans (hr k h1 h3)
      have hE6 : Below w.heap.size w (w5.setCell ⟨b2, 3, none⟩ (.slice (some ⟨g5, 0, none⟩) (x.cycle.length + 1) cap5)) := ((HE.out.alloc (by have h2 := HE.out.size; omega) _).trans hbel5).setCell (p := ⟨b2, 3, none⟩) hwb _
      have HE6 := Lib.hid hE6
      have HO6 := Lib.hid ho6
      have HB6 := Lib.hid hb6
      have HK6 := Lib.hid hk6
      have HGY := Lib.hid hgy
      have HGH := Lib.hid hgh
      have hs7 : wc.heap.size < (w5.setCell ⟨b2, 3, none⟩ (.slice (some ⟨g5, 0, none⟩) (x.cycle.length + 1) cap5)).heap.size := by simp; omega
      have g60 := hb6.cells 3
      clear hr hs5 hs6 hgb hgy hgh hb6 ho6 hk6 hE6 hgrow5 hbel5 hg5 hown5 hb5 g0 f0 f1 f2 f3
      generalize w5.setCell ⟨b2, 3, none⟩ (.slice (some ⟨g5, 0, none⟩) (x.cycle.length + 1) cap5) = w6 at *
      go_wp2_with (at_builtin; refine append_list2 (by rfl) _ _ (by rfl) w.heap.size (.slice (some ⟨g5, 0, none⟩) (x.cycle.length + 1) cap5) (x.cycle ++ [0]) 0 (by rfl) (HO6.out.ext (by (repeat' (with_reducible first | assumption | exact Ext.refl _ | refine Ext.alloc ?_ _ | refine Ext.drew ?_ | refine Ext.drewN ?_ _ | (refine Ext.setCell ?_ (by first | (simp; done) | (simp; omega) | omega) _) | refine Ext.trans ?_ (by assumption))))) _ _ (by rfl) (by first | (simp; done) | exact ((BoxIs.new _ #[.int .i64 0] _).cells 0).1) ⟨by omega, by omega⟩ (by simp; omega) (by have h2 := HE6.out.size; simp; omega) ?_; intro g7 cap7 w7 hown7 hgrow7 hbel7 hg7; have hb7 : BoxIs w7 b2 #[.slice x1X x.head.length y1X, .int .i64 x.frm, .int .i64 x.period, .slice (some ⟨g5, 0, none⟩) (x.cycle.length + 1) cap5] 28 := (hgrow7.block _ (by have := HB6.out.lt; simp; omega) (fun e => by have e2 : g5 = b2 := (by simpa [Value.ownBlock] using e.symm); omega)).trans (HB6.out.below (by (repeat' (with_reducible first | assumption | exact Ext.refl _ | refine Ext.alloc ?_ _ | refine Ext.drew ?_ | refine Ext.drewN ?_ _ | (refine Ext.setCell ?_ (by first | (simp; done) | (simp; omega) | omega) _) | refine Ext.trans ?_ (by assumption))))); have g0 := hb7.cells 3)
      go_meet
      have hs8 := hgrow7.size
      have hk7 : ∀ k, k < wc.heap.size → k ≠ b2 → k ≠ g5 → w7.heap[k]? = w6.heap[k]? := fun k h1 h2 h3 => (hgrow7.block k (by simp; omega) (fun e => h3 (by simpa [Value.ownBlock] using e))).trans (Below.heap_alloc _ _ _ (by omega))
      have hg7b : g7 ≠ b2 := by
        rcases hg7 with h | h
        · have e2 : g5 = g7 := (by simpa [Value.ownBlock] using h); omega
        · simp at h; have := HB6.out.lt; omega
      have hy7 := HK6.out
      refine ⟨⟨x.head, x.frm, x.period, x.cycle ++ [0] ++ [0]⟩, Sets.cons (keep_y hby hpy hb2 hz3 fun k h1 h2 => (Below.heap_setCell _ _ _ k (by simp; omega)).trans ((hk7 k h2 (by omega) (HGY.out k h1 h2)).trans (hy7 k h2 (by omega) fun q hq => by have := HLC.out q hq; omega))) (Sets.cons ⟨_, _, heap_set_at 3 _ hb7, ⟨(HOH.out.kept_lt fun q hq => ⟨(Below.heap_setCell _ _ _ q (by have := HLH.out q hq; simp; omega)).trans ((hk7 q (by have := HLH.out q hq; omega) (by have := HLH.out q hq; omega) (HGH.out q hq)).trans (hy7 q (by have := HLH.out q hq; omega) (by have := HLH.out q hq; omega) fun r hr2 => by have h1 := HZH.out q hq; have h2 := HZC.out r hr2; omega)), by simp at hs8 ⊢; omega⟩).ints, ?_⟩⟩ (Sets.nil _)), valid_cy rise_dup_no, ?_⟩
      · have h9 := (hown7.kept_lt (w' := w7.setCell ⟨b2, 3, none⟩ (.slice (some ⟨g7, 0, none⟩) (x.cycle.length + 1 + 1) cap7)) fun q hq => ⟨Below.heap_setCell _ _ _ q (by have e : g7 = q := (by simpa [Value.ownBlock] using hq); simp; omega), by simp⟩).ints
        have e : (x.cycle ++ [0] ++ [0]).length = x.cycle.length + 1 + 1 := by simp
        have e8 : (Value.slice (some ⟨g7, 0, none⟩) ((x.cycle ++ [0]).length + 1) cap7) = .slice (some ⟨g7, 0, none⟩) (x.cycle.length + 1 + 1) cap7 := by simp
        first | exact h9 | simpa using h9 | (rw [e8] at h9; exact h9)
      · exact ((HE6.out.alloc (by have h2 := HE6.out.size; omega) _).trans hbel7).setCell (p := ⟨b2, 3, none⟩) hwb _
    · have hblt := hbx.lt
      go_wp2_with fail
      go_meet
      have hx5 : BoxIs (wc.setCell ⟨b2, 0, none⟩ (.slice (some ⟨wc.heap.size, 0, none⟩) 1 1)) b2 #[.slice (some ⟨wc.heap.size, 0, none⟩) 1 1, .int .i64 x.frm, .int .i64 x.period, .slice x2X x.cycle.length y2X] 28 := heap_set_at 0 _ hbx
      have hk5 : ∀ k, k < wc.heap.size → k ≠ b2 → ((wc.setCell ⟨b2, 0, none⟩ (.slice (some ⟨wc.heap.size, 0, none⟩) 1 1)).alloc (.cells #[.int .i64 (-1 - sp)] 3)).heap[k]? = wc.heap[k]? := fun k h1 h2 => (Below.heap_alloc _ _ _ (by simp; omega)).trans (Below.heap_setCell _ _ _ k (by simpa using h2))
      refine ⟨⟨[-1 - sp], x.frm, x.period, x.cycle⟩, Sets.cons (keep_y hby hpy hb2 hz3 fun k h1 h2 => hk5 k h2 (by omega)) (Sets.cons ⟨_, _, hx5.alloc _, ⟨Ints.lit (l := [-1 - sp]) (BoxIs.at (by simp)) (by simp) (by simp; unfold InI; omega), (HOC.out.kept_lt fun q hq => ⟨hk5 q (by have := HLC.out q hq; omega) (by have := HLC.out q hq; omega), by simp⟩).ints⟩⟩ (Sets.nil _)), valid_hd (rise_neg_no (show -1 - sp < 0 by omega)), ?_⟩
      exact (HE.out.setCell (p := ⟨b2, 0, none⟩) hwb _).alloc (by have h2 := HE.out.size; simp; omega) _
  case rest =>
    obtain ⟨pp, hS, hbad, hE⟩ := hcut
    clear hbx hoh hoc hby hpy zhX zcX hlh hlc k0 k1 d0 lx1 lx2 lx3 lx4 lx5 lx6
    have HBAD := Lib.hid hbad
    have HB1 : Hid (validB y = false ∨ validB pp = false) := Lib.hid (.inr hbad)
    have HB2 : Hid (validB pp = false ∨ validB y = false) := Lib.hid (.inl hbad)
    have HB3 : Hid (validB pp = false ∨ validB pp = false) := Lib.hid (.inl hbad)
    have HCT : Hid (okCut pp 0 1 = false) := Lib.hid (by unfold okCut; rw [hbad]; simp)
    have HCC : Hid (okCount pp 0 1 = false) := Lib.hid (by unfold okCount; rw [hbad]; simp)
    clear hbad
    obtain ⟨hA_18, cA_18, gA⟩ := hS.at 1 rfl
    have qa0 := (gA.box.cells 0).1
    have qa1 := (gA.box.cells 1).1
    have qa2 := (gA.box.cells 2).1
    have qa3 := (gA.box.cells 3).1
    go_upto_region 19 with (go_at_call 31; refine (Canon_bad hA_18 cA_18 pp _ (gA.is.ext (by (repeat' (with_reducible first | assumption | exact Ext.refl _ | refine Ext.alloc ?_ _ | refine Ext.drew ?_ | refine Ext.drewN ?_ _ | (refine Ext.setCell ?_ (by first | (simp; done) | (simp; omega) | omega) _) | refine Ext.trans ?_ (by assumption))))) HBAD.out).mono ?_; rintro e uR ⟨rfl, kR⟩)
    refine wp_abs (F := fun U => Sets U ((uR.heap.size, (⟨[], 0, 0, []⟩ : Per)) :: [(b3, y), (b2, pp)]) ∧ Below w.heap.size w U) ⟨Sets.cons ⟨.slice none 0 0, .slice none 0 0, by (first | (refine BoxIs.at ?_; simp; done) | (refine (BoxIs.at ?_).alloc _; simp; done) | (refine ((BoxIs.at ?_).alloc _).alloc _; simp; done) | (refine (((BoxIs.at ?_).alloc _).alloc _).alloc _; simp; done) | (refine ((((BoxIs.at ?_).alloc _).alloc _).alloc _).alloc _; simp; done) | (refine (((((BoxIs.at ?_).alloc _).alloc _).alloc _).alloc _).alloc _; simp; done) | (refine ((((((BoxIs.at ?_).alloc _).alloc _).alloc _).alloc _).alloc _).alloc _; simp; done) | (refine (((((((BoxIs.at ?_).alloc _).alloc _).alloc _).alloc _).alloc _).alloc _).alloc _; simp; done) | (refine ((((((((BoxIs.at ?_).alloc _).alloc _).alloc _).alloc _).alloc _).alloc _).alloc _).alloc _; simp; done) | (refine (((((((((BoxIs.at ?_).alloc _).alloc _).alloc _).alloc _).alloc _).alloc _).alloc _).alloc _).alloc _; simp; done) | (refine ((((((((((BoxIs.at ?_).alloc _).alloc _).alloc _).alloc _).alloc _).alloc _).alloc _).alloc _).alloc _).alloc _; simp; done) | (refine (((((((((((BoxIs.at ?_).alloc _).alloc _).alloc _).alloc _).alloc _).alloc _).alloc _).alloc _).alloc _).alloc _).alloc _; simp; done)), Ints.nil _, Ints.nil _⟩ (hS.below (by (repeat' (with_reducible first | assumption | exact Ext.refl _ | refine Ext.alloc ?_ _ | refine Ext.drew ?_ | refine Ext.drewN ?_ _ | (refine Ext.setCell ?_ (by first | (simp; done) | (simp; omega) | omega) _) | refine Ext.trans ?_ (by assumption))))), by (repeat' (with_reducible first | assumption | exact Ext.refl _ | refine Ext.alloc ?_ _ | refine Ext.drew ?_ | refine Ext.drewN ?_ _ | (refine Ext.setCell ?_ (by first | (simp; done) | (simp; omega) | omega) _) | refine Ext.trans ?_ (by assumption)))⟩ ?_
    clear hS hE kR gA qa0 qa1 qa2 qa3
    generalize uR.heap.size = b18 at *
    rintro W31 ⟨hS, hE⟩
    obtain ⟨hA_19, cA_19, gA⟩ := hS.at 1 rfl
    have qa0 := (gA.box.cells 0).1
    have qa1 := (gA.box.cells 1).1
    have qa2 := (gA.box.cells 2).1
    have qa3 := (gA.box.cells 3).1
    obtain ⟨hB_19, cB_19, gB⟩ := hS.at 2 rfl
    have qb0 := (gB.box.cells 0).1
    have qb1 := (gB.box.cells 1).1
    have qb2 := (gB.box.cells 2).1
    have qb3 := (gB.box.cells 3).1
    go_upto_region 20 with (go_at_call 22; refine (And_err hA_19 cA_19 hB_19 cB_19 y.frm y.period pp.frm pp.period 1 _ (fun W hb => operate_bad hA_19 cA_19 hB_19 cB_19 y pp 0 W ((gA.is.ext (by (repeat' (with_reducible first | assumption | exact Ext.refl _ | refine Ext.alloc ?_ _ | refine Ext.drew ?_ | refine Ext.drewN ?_ _ | (refine Ext.setCell ?_ (by first | (simp; done) | (simp; omega) | omega) _) | refine Ext.trans ?_ (by assumption))))).ext hb) ((gB.is.ext (by (repeat' (with_reducible first | assumption | exact Ext.refl _ | refine Ext.alloc ?_ _ | refine Ext.drew ?_ | refine Ext.drewN ?_ _ | (refine Ext.setCell ?_ (by first | (simp; done) | (simp; omega) | omega) _) | refine Ext.trans ?_ (by assumption))))).ext hb) HB1.out)).mono ?_; rintro e uR ⟨rfl, kR⟩)
    refine wp_abs (F := fun U => Sets U [(b18, (⟨[], 0, 0, []⟩ : Per)), (b3, y), (b2, pp)] ∧ Below w.heap.size w U) ⟨hS.below (by (repeat' (with_reducible first | assumption | exact Ext.refl _ | refine Ext.alloc ?_ _ | refine Ext.drew ?_ | refine Ext.drewN ?_ _ | (refine Ext.setCell ?_ (by first | (simp; done) | (simp; omega) | omega) _) | refine Ext.trans ?_ (by assumption)))), by (repeat' (with_reducible first | assumption | exact Ext.refl _ | refine Ext.alloc ?_ _ | refine Ext.drew ?_ | refine Ext.drewN ?_ _ | (refine Ext.setCell ?_ (by first | (simp; done) | (simp; omega) | omega) _) | refine Ext.trans ?_ (by assumption)))⟩ ?_
    clear hS hE kR gA qa0 qa1 qa2 qa3 gB qb0 qb1 qb2 qb3
    rintro W32 ⟨hS, hE⟩
    obtain ⟨hA_20, cA_20, gA⟩ := hS.at 2 rfl
    have qa0 := (gA.box.cells 0).1
    have qa1 := (gA.box.cells 1).1
    have qa2 := (gA.box.cells 2).1
    have qa3 := (gA.box.cells 3).1
    obtain ⟨hB_20, cB_20, gB⟩ := hS.at 1 rfl
    have qb0 := (gB.box.cells 0).1
    have qb1 := (gB.box.cells 1).1
    have qb2 := (gB.box.cells 2).1
    have qb3 := (gB.box.cells 3).1
    go_upto_region 21 with (go_at_call 21; refine (Or_err hA_20 cA_20 hB_20 cB_20 pp.frm pp.period y.frm y.period 1 _ (fun W hb => operate_bad hA_20 cA_20 hB_20 cB_20 pp y 1 W ((gA.is.ext (by (repeat' (with_reducible first | assumption | exact Ext.refl _ | refine Ext.alloc ?_ _ | refine Ext.drew ?_ | refine Ext.drewN ?_ _ | (refine Ext.setCell ?_ (by first | (simp; done) | (simp; omega) | omega) _) | refine Ext.trans ?_ (by assumption))))).ext hb) ((gB.is.ext (by (repeat' (with_reducible first | assumption | exact Ext.refl _ | refine Ext.alloc ?_ _ | refine Ext.drew ?_ | refine Ext.drewN ?_ _ | (refine Ext.setCell ?_ (by first | (simp; done) | (simp; omega) | omega) _) | refine Ext.trans ?_ (by assumption))))).ext hb) HB2.out)).mono ?_; rintro e uR ⟨rfl, kR⟩)
    refine wp_abs (F := fun U => Sets U [(b18, (⟨[], 0, 0, []⟩ : Per)), (b3, y), (b2, pp)] ∧ Below w.heap.size w U) ⟨hS.below (by (repeat' (with_reducible first | assumption | exact Ext.refl _ | refine Ext.alloc ?_ _ | refine Ext.drew ?_ | refine Ext.drewN ?_ _ | (refine Ext.setCell ?_ (by first | (simp; done) | (simp; omega) | omega) _) | refine Ext.trans ?_ (by assumption)))), by (repeat' (with_reducible first | assumption | exact Ext.refl _ | refine Ext.alloc ?_ _ | refine Ext.drew ?_ | refine Ext.drewN ?_ _ | (refine Ext.setCell ?_ (by first | (simp; done) | (simp; omega) | omega) _) | refine Ext.trans ?_ (by assumption)))⟩ ?_
    clear hS hE kR gA qa0 qa1 qa2 qa3 gB qb0 qb1 qb2 qb3
    rintro W33 ⟨hS, hE⟩
    obtain ⟨hA_21, cA_21, gA⟩ := hS.at 2 rfl
    have qa0 := (gA.box.cells 0).1
    have qa1 := (gA.box.cells 1).1
    have qa2 := (gA.box.cells 2).1
    have qa3 := (gA.box.cells 3).1
    go_upto_region 22 with (go_at_call 23; refine (Minus_err hA_21 cA_21 hA_21 cA_21 pp.frm pp.period pp.frm pp.period 1 _ (fun W hb => operate_bad hA_21 cA_21 hA_21 cA_21 pp pp 2 W ((gA.is.ext (by (repeat' (with_reducible first | assumption | exact Ext.refl _ | refine Ext.alloc ?_ _ | refine Ext.drew ?_ | refine Ext.drewN ?_ _ | (refine Ext.setCell ?_ (by first | (simp; done) | (simp; omega) | omega) _) | refine Ext.trans ?_ (by assumption))))).ext hb) ((gA.is.ext (by (repeat' (with_reducible first | assumption | exact Ext.refl _ | refine Ext.alloc ?_ _ | refine Ext.drew ?_ | refine Ext.drewN ?_ _ | (refine Ext.setCell ?_ (by first | (simp; done) | (simp; omega) | omega) _) | refine Ext.trans ?_ (by assumption))))).ext hb) HB3.out)).mono ?_; rintro e uR ⟨rfl, kR⟩)
    refine wp_abs (F := fun U => Sets U [(b18, (⟨[], 0, 0, []⟩ : Per)), (b3, y), (b2, pp)] ∧ Below w.heap.size w U) ⟨hS.below (by (repeat' (with_reducible first | assumption | exact Ext.refl _ | refine Ext.alloc ?_ _ | refine Ext.drew ?_ | refine Ext.drewN ?_ _ | (refine Ext.setCell ?_ (by first | (simp; done) | (simp; omega) | omega) _) | refine Ext.trans ?_ (by assumption)))), by (repeat' (with_reducible first | assumption | exact Ext.refl _ | refine Ext.alloc ?_ _ | refine Ext.drew ?_ | refine Ext.drewN ?_ _ | (refine Ext.setCell ?_ (by first | (simp; done) | (simp; omega) | omega) _) | refine Ext.trans ?_ (by assumption)))⟩ ?_
    clear hS hE kR gA qa0 qa1 qa2 qa3
    rintro W34 ⟨hS, hE⟩
    obtain ⟨hA_22, cA_22, gA⟩ := hS.at 2 rfl
    have qa0 := (gA.box.cells 0).1
    have qa1 := (gA.box.cells 1).1
    have qa2 := (gA.box.cells 2).1
    have qa3 := (gA.box.cells 3).1
    go_upto_region 23 with (go_at_call 34; refine (Shift_bad hA_22 cA_22 pp 1 _ (gA.is.ext (by (repeat' (with_reducible first | assumption | exact Ext.refl _ | refine Ext.alloc ?_ _ | refine Ext.drew ?_ | refine Ext.drewN ?_ _ | (refine Ext.setCell ?_ (by first | (simp; done) | (simp; omega) | omega) _) | refine Ext.trans ?_ (by assumption))))) HBAD.out).mono ?_; rintro e uR ⟨rfl, kR⟩)
    refine wp_abs (F := fun U => Sets U [(b18, (⟨[], 0, 0, []⟩ : Per)), (b3, y), (b2, pp)] ∧ Below w.heap.size w U) ⟨hS.below (by (repeat' (with_reducible first | assumption | exact Ext.refl _ | refine Ext.alloc ?_ _ | refine Ext.drew ?_ | refine Ext.drewN ?_ _ | (refine Ext.setCell ?_ (by first | (simp; done) | (simp; omega) | omega) _) | refine Ext.trans ?_ (by assumption)))), by (repeat' (with_reducible first | assumption | exact Ext.refl _ | refine Ext.alloc ?_ _ | refine Ext.drew ?_ | refine Ext.drewN ?_ _ | (refine Ext.setCell ?_ (by first | (simp; done) | (simp; omega) | omega) _) | refine Ext.trans ?_ (by assumption)))⟩ ?_
    clear hS hE kR gA qa0 qa1 qa2 qa3
    rintro W35 ⟨hS, hE⟩
    obtain ⟨hA_23, cA_23, gA⟩ := hS.at 2 rfl
    have qa0 := (gA.box.cells 0).1
    have qa1 := (gA.box.cells 1).1
    have qa2 := (gA.box.cells 2).1
    have qa3 := (gA.box.cells 3).1
    go_upto_region 24 with (go_at_call 15; refine (Cut_bad hA_23 cA_23 pp 0 1 _ (gA.is.ext (by (repeat' (with_reducible first | assumption | exact Ext.refl _ | refine Ext.alloc ?_ _ | refine Ext.drew ?_ | refine Ext.drewN ?_ _ | (refine Ext.setCell ?_ (by first | (simp; done) | (simp; omega) | omega) _) | refine Ext.trans ?_ (by assumption))))) HCT.out).mono ?_; rintro e uR ⟨rfl, kR⟩)
    refine wp_abs (F := fun U => Sets U [(b18, (⟨[], 0, 0, []⟩ : Per)), (b3, y), (b2, pp)] ∧ Below w.heap.size w U) ⟨hS.below (by (repeat' (with_reducible first | assumption | exact Ext.refl _ | refine Ext.alloc ?_ _ | refine Ext.drew ?_ | refine Ext.drewN ?_ _ | (refine Ext.setCell ?_ (by first | (simp; done) | (simp; omega) | omega) _) | refine Ext.trans ?_ (by assumption)))), by (repeat' (with_reducible first | assumption | exact Ext.refl _ | refine Ext.alloc ?_ _ | refine Ext.drew ?_ | refine Ext.drewN ?_ _ | (refine Ext.setCell ?_ (by first | (simp; done) | (simp; omega) | omega) _) | refine Ext.trans ?_ (by assumption)))⟩ ?_
    clear hS hE kR gA qa0 qa1 qa2 qa3
    rintro W36 ⟨hS, hE⟩
    obtain ⟨hA_24, cA_24, gA⟩ := hS.at 2 rfl
    have qa0 := (gA.box.cells 0).1
    have qa1 := (gA.box.cells 1).1
    have qa2 := (gA.box.cells 2).1
    have qa3 := (gA.box.cells 3).1
    go_upto_region 25 with (go_at_call 30; refine (count_bad hA_24 cA_24 pp 0 1 _ (gA.is.ext (by (repeat' (with_reducible first | assumption | exact Ext.refl _ | refine Ext.alloc ?_ _ | refine Ext.drew ?_ | refine Ext.drewN ?_ _ | (refine Ext.setCell ?_ (by first | (simp; done) | (simp; omega) | omega) _) | refine Ext.trans ?_ (by assumption))))) HCC.out).mono ?_; rintro e uR ⟨rfl, kR⟩)
    refine wp_abs (F := fun U => Sets U [(b18, (⟨[], 0, 0, []⟩ : Per)), (b3, y), (b2, pp)] ∧ Below w.heap.size w U) ⟨hS.below (by (repeat' (with_reducible first | assumption | exact Ext.refl _ | refine Ext.alloc ?_ _ | refine Ext.drew ?_ | refine Ext.drewN ?_ _ | (refine Ext.setCell ?_ (by first | (simp; done) | (simp; omega) | omega) _) | refine Ext.trans ?_ (by assumption)))), by (repeat' (with_reducible first | assumption | exact Ext.refl _ | refine Ext.alloc ?_ _ | refine Ext.drew ?_ | refine Ext.drewN ?_ _ | (refine Ext.setCell ?_ (by first | (simp; done) | (simp; omega) | omega) _) | refine Ext.trans ?_ (by assumption)))⟩ ?_
    clear hS hE kR gA qa0 qa1 qa2 qa3
    rintro W37 ⟨hS, hE⟩
    obtain ⟨hA_25, cA_25, gA⟩ := hS.at 2 rfl
    have qa0 := (gA.box.cells 0).1
    have qa1 := (gA.box.cells 1).1
    have qa2 := (gA.box.cells 2).1
    have qa3 := (gA.box.cells 3).1
    go_upto_region 26 with (go_at_call 17; refine (Residues_bad hA_25 cA_25 pp 1 _ (gA.is.ext (by (repeat' (with_reducible first | assumption | exact Ext.refl _ | refine Ext.alloc ?_ _ | refine Ext.drew ?_ | refine Ext.drewN ?_ _ | (refine Ext.setCell ?_ (by first | (simp; done) | (simp; omega) | omega) _) | refine Ext.trans ?_ (by assumption))))) HBAD.out).mono ?_; rintro e uR ⟨rfl, kR⟩)
    refine wp_abs (F := fun U => Sets U [(b18, (⟨[], 0, 0, []⟩ : Per)), (b3, y), (b2, pp)] ∧ Below w.heap.size w U) ⟨hS.below (by (repeat' (with_reducible first | assumption | exact Ext.refl _ | refine Ext.alloc ?_ _ | refine Ext.drew ?_ | refine Ext.drewN ?_ _ | (refine Ext.setCell ?_ (by first | (simp; done) | (simp; omega) | omega) _) | refine Ext.trans ?_ (by assumption)))), by (repeat' (with_reducible first | assumption | exact Ext.refl _ | refine Ext.alloc ?_ _ | refine Ext.drew ?_ | refine Ext.drewN ?_ _ | (refine Ext.setCell ?_ (by first | (simp; done) | (simp; omega) | omega) _) | refine Ext.trans ?_ (by assumption)))⟩ ?_
    clear hS hE kR gA qa0 qa1 qa2 qa3
    rintro W38 ⟨hS, hE⟩
    obtain ⟨hA_26, cA_26, gA⟩ := hS.at 2 rfl
    have qa0 := (gA.box.cells 0).1
    have qa1 := (gA.box.cells 1).1
    have qa2 := (gA.box.cells 2).1
    have qa3 := (gA.box.cells 3).1
    go_upto_region 27 with (go_at_call 26; refine (next_bad hA_26 cA_26 pp 0 _ (gA.is.ext (by (repeat' (with_reducible first | assumption | exact Ext.refl _ | refine Ext.alloc ?_ _ | refine Ext.drew ?_ | refine Ext.drewN ?_ _ | (refine Ext.setCell ?_ (by first | (simp; done) | (simp; omega) | omega) _) | refine Ext.trans ?_ (by assumption))))) HBAD.out).mono ?_; rintro e uR ⟨rfl, kR⟩)
    refine wp_abs (F := fun U => Sets U [(b18, (⟨[], 0, 0, []⟩ : Per)), (b3, y), (b2, pp)] ∧ Below w.heap.size w U) ⟨hS.below (by (repeat' (with_reducible first | assumption | exact Ext.refl _ | refine Ext.alloc ?_ _ | refine Ext.drew ?_ | refine Ext.drewN ?_ _ | (refine Ext.setCell ?_ (by first | (simp; done) | (simp; omega) | omega) _) | refine Ext.trans ?_ (by assumption)))), by (repeat' (with_reducible first | assumption | exact Ext.refl _ | refine Ext.alloc ?_ _ | refine Ext.drew ?_ | refine Ext.drewN ?_ _ | (refine Ext.setCell ?_ (by first | (simp; done) | (simp; omega) | omega) _) | refine Ext.trans ?_ (by assumption)))⟩ ?_
    clear hS hE kR gA qa0 qa1 qa2 qa3
    rintro W39 ⟨hS, hE⟩
    obtain ⟨hA_27, cA_27, gA⟩ := hS.at 2 rfl
    have qa0 := (gA.box.cells 0).1
    have qa1 := (gA.box.cells 1).1
    have qa2 := (gA.box.cells 2).1
    have qa3 := (gA.box.cells 3).1
    obtain ⟨hB_27, cB_27, gB⟩ := hS.at 1 rfl
    have qb0 := (gB.box.cells 0).1
    have qb1 := (gB.box.cells 1).1
    have qb2 := (gB.box.cells 2).1
    have qb3 := (gB.box.cells 3).1
    go_upto_region 28 with (go_at_call 25; refine (first_bad hA_27 cA_27 hB_27 cB_27 pp y 0 _ (gA.is.ext (by (repeat' (with_reducible first | assumption | exact Ext.refl _ | refine Ext.alloc ?_ _ | refine Ext.drew ?_ | refine Ext.drewN ?_ _ | (refine Ext.setCell ?_ (by first | (simp; done) | (simp; omega) | omega) _) | refine Ext.trans ?_ (by assumption))))) (gB.is.ext (by (repeat' (with_reducible first | assumption | exact Ext.refl _ | refine Ext.alloc ?_ _ | refine Ext.drew ?_ | refine Ext.drewN ?_ _ | (refine Ext.setCell ?_ (by first | (simp; done) | (simp; omega) | omega) _) | refine Ext.trans ?_ (by assumption))))) HB2.out).mono ?_; rintro e uR ⟨rfl, kR⟩)
    refine wp_abs (F := fun U => Sets U [(b18, (⟨[], 0, 0, []⟩ : Per)), (b3, y), (b2, pp)] ∧ Below w.heap.size w U) ⟨hS.below (by (repeat' (with_reducible first | assumption | exact Ext.refl _ | refine Ext.alloc ?_ _ | refine Ext.drew ?_ | refine Ext.drewN ?_ _ | (refine Ext.setCell ?_ (by first | (simp; done) | (simp; omega) | omega) _) | refine Ext.trans ?_ (by assumption)))), by (repeat' (with_reducible first | assumption | exact Ext.refl _ | refine Ext.alloc ?_ _ | refine Ext.drew ?_ | refine Ext.drewN ?_ _ | (refine Ext.setCell ?_ (by first | (simp; done) | (simp; omega) | omega) _) | refine Ext.trans ?_ (by assumption)))⟩ ?_
    clear hS hE kR gA qa0 qa1 qa2 qa3 gB qb0 qb1 qb2 qb3
    rintro W40 ⟨hS, hE⟩
    obtain ⟨hA_28, cA_28, gA⟩ := hS.at 1 rfl
    have qa0 := (gA.box.cells 0).1
    have qa1 := (gA.box.cells 1).1
    have qa2 := (gA.box.cells 2).1
    have qa3 := (gA.box.cells 3).1
    obtain ⟨hB_28, cB_28, gB⟩ := hS.at 2 rfl
    have qb0 := (gB.box.cells 0).1
    have qb1 := (gB.box.cells 1).1
    have qb2 := (gB.box.cells 2).1
    have qb3 := (gB.box.cells 3).1
    go_upto_region 29 with (go_at_call 35; refine (apart_bad hA_28 cA_28 hB_28 cB_28 y pp _ (gA.is.ext (by (repeat' (with_reducible first | assumption | exact Ext.refl _ | refine Ext.alloc ?_ _ | refine Ext.drew ?_ | refine Ext.drewN ?_ _ | (refine Ext.setCell ?_ (by first | (simp; done) | (simp; omega) | omega) _) | refine Ext.trans ?_ (by assumption))))) (gB.is.ext (by (repeat' (with_reducible first | assumption | exact Ext.refl _ | refine Ext.alloc ?_ _ | refine Ext.drew ?_ | refine Ext.drewN ?_ _ | (refine Ext.setCell ?_ (by first | (simp; done) | (simp; omega) | omega) _) | refine Ext.trans ?_ (by assumption))))) HB1.out).mono ?_; rintro e uR ⟨rfl, kR⟩)
    refine wp_abs (F := fun U => Sets U [(b18, (⟨[], 0, 0, []⟩ : Per)), (b3, y), (b2, pp)] ∧ Below w.heap.size w U) ⟨hS.below (by (repeat' (with_reducible first | assumption | exact Ext.refl _ | refine Ext.alloc ?_ _ | refine Ext.drew ?_ | refine Ext.drewN ?_ _ | (refine Ext.setCell ?_ (by first | (simp; done) | (simp; omega) | omega) _) | refine Ext.trans ?_ (by assumption)))), by (repeat' (with_reducible first | assumption | exact Ext.refl _ | refine Ext.alloc ?_ _ | refine Ext.drew ?_ | refine Ext.drewN ?_ _ | (refine Ext.setCell ?_ (by first | (simp; done) | (simp; omega) | omega) _) | refine Ext.trans ?_ (by assumption)))⟩ ?_
    clear hS hE kR gA qa0 qa1 qa2 qa3 gB qb0 qb1 qb2 qb3
    rintro W41 ⟨hS, hE⟩
    go_upto_region 30 with (fail)
    refine wp_abs (F := fun U => Sets U [(b18, (⟨[], 0, 0, []⟩ : Per)), (b3, y), (b2, pp)] ∧ Below w.heap.size w U) ⟨hS.below (by (repeat' (with_reducible first | assumption | exact Ext.refl _ | refine Ext.alloc ?_ _ | refine Ext.drew ?_ | refine Ext.drewN ?_ _ | (refine Ext.setCell ?_ (by first | (simp; done) | (simp; omega) | omega) _) | refine Ext.trans ?_ (by assumption)))), by (repeat' (with_reducible first | assumption | exact Ext.refl _ | refine Ext.alloc ?_ _ | refine Ext.drew ?_ | refine Ext.drewN ?_ _ | (refine Ext.setCell ?_ (by first | (simp; done) | (simp; omega) | omega) _) | refine Ext.trans ?_ (by assumption)))⟩ ?_
    clear hS hE
    rintro W60 ⟨hS, hE⟩
    have HDAY : Hid (InI day) := Lib.hid ⟨dy0, dy1⟩
    have HHAS : Hid ((validB pp && decide (0 ≤ day) && memB pp day) = false) := Lib.hid (by rw [HBAD.out]; rfl)
    have HEMP : Hid (emptyB pp = false) := Lib.hid (by unfold emptyB; rw [HBAD.out]; simp)
    have HFIN : Hid ((validB pp && decide (pp.cycle = [])) = false) := Lib.hid (by rw [HBAD.out]; rfl)
    obtain ⟨hC9, cC9, gC9⟩ := hS.at 0 rfl
    obtain ⟨jaC9, jbC9, jcC9, jdC9, rfl, rfl⟩ := gC9.is.inn.form
    have qC90 := (gC9.box.cells 0).1
    have qC91 := (gC9.box.cells 1).1
    have qC92 := (gC9.box.cells 2).1
    have qC93 := (gC9.box.cells 3).1
    have zC9 := gC9.box.lt
    obtain ⟨hP9, cP9, gP9⟩ := hS.at 2 rfl
    obtain ⟨jaP9, jbP9, jcP9, jdP9, rfl, rfl⟩ := gP9.is.inn.form
    have qP90 := (gP9.box.cells 0).1
    have qP91 := (gP9.box.cells 1).1
    have qP92 := (gP9.box.cells 2).1
    have qP93 := (gP9.box.cells 3).1
    have zP9 := gP9.box.lt
    go_wp2_with (first | (go_at_call 19; (refine (Equal_any _ _ (.slice none 0 0) (.slice none 0 0) ⟨[], 0, 0, []⟩ ⟨[], 0, 0, []⟩ _ (gC9.is.ext (by (repeat' (with_reducible first | assumption | exact Ext.refl _ | refine Ext.alloc ?_ _ | refine Ext.drew ?_ | refine Ext.drewN ?_ _ | (refine Ext.setCell ?_ (by first | (simp; done) | (simp; omega) | omega) _) | refine Ext.trans ?_ (by assumption))))) ⟨Ints.nil _, Ints.nil _⟩).mono ?_); rintro e u1 ⟨he, k1⟩; rw [decide_eq_true rfl] at he; subst he; obtain ⟨kc1, kf1⟩ := bcell k1; (try simp only [World.size_alloc, World.size_drew, size_drewN, World.size_setCell] at kc1 kf1); have y1 : b2 < u1.heap.size := (by have h7 := k1.size; (try simp only [World.size_alloc, World.size_drew, size_drewN, World.size_setCell] at h7); omega)) | (go_at_call 38; (with_reducible refine (valid_any (.slice jaP9 (pp : Per).head.length jbP9) (.slice jcP9 (pp : Per).cycle.length jdP9) pp _ (gP9.is.ext (by (repeat' (with_reducible first | assumption | exact Ext.refl _ | refine Ext.alloc ?_ _ | refine Ext.drew ?_ | refine Ext.drewN ?_ _ | (refine Ext.setCell ?_ (by first | (simp; done) | (simp; omega) | omega) _) | refine Ext.trans ?_ (by assumption)))))).mono ?_); rintro e u2 ⟨he, k2⟩; rw [HBAD.out] at he; subst he; obtain ⟨kc2, kf2⟩ := bcell k2; (try simp only [World.size_alloc, World.size_drew, size_drewN, World.size_setCell] at kc2 kf2); have y2 : b2 < u2.heap.size := (by have h7 := k2.size; (try simp only [World.size_alloc, World.size_drew, size_drewN, World.size_setCell] at h7); omega)) | (go_at_call 24; (with_reducible refine (has_far (.slice jaP9 (pp : Per).head.length jbP9) (.slice jcP9 (pp : Per).cycle.length jdP9) pp day _ (gP9.is.ext (by (repeat' (with_reducible first | assumption | exact Ext.refl _ | refine Ext.alloc ?_ _ | refine Ext.drew ?_ | refine Ext.drewN ?_ _ | (refine Ext.setCell ?_ (by first | (simp; done) | (simp; omega) | omega) _) | refine Ext.trans ?_ (by assumption))))) HDAY.out).mono ?_); rintro e u3 ⟨he, k3⟩; rw [HHAS.out] at he; subst he; obtain ⟨kc3, kf3⟩ := bcell k3; (try simp only [World.size_alloc, World.size_drew, size_drewN, World.size_setCell] at kc3 kf3); have y3 : b2 < u3.heap.size := (by have h7 := k3.size; (try simp only [World.size_alloc, World.size_drew, size_drewN, World.size_setCell] at h7); omega)) | (go_at_call 37; (with_reducible refine (empty_any (.slice jaP9 (pp : Per).head.length jbP9) (.slice jcP9 (pp : Per).cycle.length jdP9) pp _ (gP9.is.ext (by (repeat' (with_reducible first | assumption | exact Ext.refl _ | refine Ext.alloc ?_ _ | refine Ext.drew ?_ | refine Ext.drewN ?_ _ | (refine Ext.setCell ?_ (by first | (simp; done) | (simp; omega) | omega) _) | refine Ext.trans ?_ (by assumption)))))).mono ?_); rintro e u4 ⟨he, k4⟩; rw [HEMP.out] at he; subst he; obtain ⟨kc4, kf4⟩ := bcell k4; (try simp only [World.size_alloc, World.size_drew, size_drewN, World.size_setCell] at kc4 kf4); have y4 : b2 < u4.heap.size := (by have h7 := k4.size; (try simp only [World.size_alloc, World.size_drew, size_drewN, World.size_setCell] at h7); omega)) | (go_at_call 29; (with_reducible refine (finite_any (.slice jaP9 (pp : Per).head.length jbP9) (.slice jcP9 (pp : Per).cycle.length jdP9) pp _ (gP9.is.ext (by (repeat' (with_reducible first | assumption | exact Ext.refl _ | refine Ext.alloc ?_ _ | refine Ext.drew ?_ | refine Ext.drewN ?_ _ | (refine Ext.setCell ?_ (by first | (simp; done) | (simp; omega) | omega) _) | refine Ext.trans ?_ (by assumption)))))).mono ?_); rintro e u5 ⟨he, k5⟩; rw [HFIN.out] at he; subst he; obtain ⟨kc5, kf5⟩ := bcell k5; (try simp only [World.size_alloc, World.size_drew, size_drewN, World.size_setCell] at kc5 kf5); have y5 : b2 < u5.heap.size := (by have h7 := k5.size; (try simp only [World.size_alloc, World.size_drew, size_drewN, World.size_setCell] at h7); omega)) | (go_at_call 36; (with_reducible refine (subset_bad (.slice jaP9 (pp : Per).head.length jbP9) (.slice jcP9 (pp : Per).cycle.length jdP9) (.slice jaP9 (pp : Per).head.length jbP9) (.slice jcP9 (pp : Per).cycle.length jdP9) pp pp _ (gP9.is.ext (by (repeat' (with_reducible first | assumption | exact Ext.refl _ | refine Ext.alloc ?_ _ | refine Ext.drew ?_ | refine Ext.drewN ?_ _ | (refine Ext.setCell ?_ (by first | (simp; done) | (simp; omega) | omega) _) | refine Ext.trans ?_ (by assumption))))) (gP9.is.ext (by (repeat' (with_reducible first | assumption | exact Ext.refl _ | refine Ext.alloc ?_ _ | refine Ext.drew ?_ | refine Ext.drewN ?_ _ | (refine Ext.setCell ?_ (by first | (simp; done) | (simp; omega) | omega) _) | refine Ext.trans ?_ (by assumption))))) HB3.out).mono ?_); rintro e u6 ⟨he, k6⟩; subst he; obtain ⟨kc6, kf6⟩ := bcell k6; (try simp only [World.size_alloc, World.size_drew, size_drewN, World.size_setCell] at kc6 kf6); have y6 : b2 < u6.heap.size := (by have h7 := k6.size; (try simp only [World.size_alloc, World.size_drew, size_drewN, World.size_setCell] at h7); omega)) | (go_at_call 33; (with_reducible refine (same_bad (.slice jaP9 (pp : Per).head.length jbP9) (.slice jcP9 (pp : Per).cycle.length jdP9) (.slice jaP9 (pp : Per).head.length jbP9) (.slice jcP9 (pp : Per).cycle.length jdP9) pp pp _ (gP9.is.ext (by (repeat' (with_reducible first | assumption | exact Ext.refl _ | refine Ext.alloc ?_ _ | refine Ext.drew ?_ | refine Ext.drewN ?_ _ | (refine Ext.setCell ?_ (by first | (simp; done) | (simp; omega) | omega) _) | refine Ext.trans ?_ (by assumption))))) (gP9.is.ext (by (repeat' (with_reducible first | assumption | exact Ext.refl _ | refine Ext.alloc ?_ _ | refine Ext.drew ?_ | refine Ext.drewN ?_ _ | (refine Ext.setCell ?_ (by first | (simp; done) | (simp; omega) | omega) _) | refine Ext.trans ?_ (by assumption))))) HB3.out).mono ?_); rintro e u7 ⟨he, k7⟩; subst he; obtain ⟨kc7, kf7⟩ := bcell k7; (try simp only [World.size_alloc, World.size_drew, size_drewN, World.size_setCell] at kc7 kf7); have y7 : b2 < u7.heap.size := (by have h7 := k7.size; (try simp only [World.size_alloc, World.size_drew, size_drewN, World.size_setCell] at h7); omega)))
    go_ret
    exact ⟨rfl, by (repeat' (with_reducible first | assumption | exact Ext.refl _ | refine Ext.alloc ?_ _ | refine Ext.drew ?_ | refine Ext.drewN ?_ _ | (refine Ext.setCell ?_ (by first | (simp; done) | (simp; omega) | omega) _) | refine Ext.trans ?_ (by assumption)))⟩
end Go.Proofs.Ytjilkhhokkncoaa
