/- Walks: Shift (package kalendsref04). -/
import Derived.Test.YtjilkhhokkncoaaGreatQWalkCq
set_option linter.unusedVariables false
set_option linter.unusedSimpArgs false
namespace Go.Proofs.YtjilkhhokkncoaaGreat
open Go.RowKit Go.Maps Kal

/-- Shift while it moves the head: the first elements are done -/
structure LT (w : World) (ob xb : Nat) (X : Per) (hv cv : Value) (lo hi : Nat) (f : Int) (base : Nat) (ov : Value) (l : List Int) (W : World) : Prop where
  below : Below w.heap.size w W
  rb : BoxIs W (w.heap.size + 1) #[.slice none 0 0, .int .i64 0, .int .i64 0, .slice none 0 0] 24
  xbx : BoxIs W xb #[hv, .int .i64 X.frm, .int .i64 X.period, cv] 24
  obx : BoxIs W ob #[ov, .int .i64 f, .int .i64 X.period, cv] 24
  hd : OwnIn W lo hi hv X.head
  cy : OwnIn W lo hi cv X.cycle
  own : OwnI W base ov l
  o1 : w.heap.size + 1 < lo
  o2 : hi ≤ xb
  o3 : xb < ob
  o4 : ob < base
  o5 : base ≤ W.heap.size
  o6 : lo ≤ hi

theorem LT.step {w : World} {ob xb : Nat} {X : Per} {hv cv : Value} {lo hi : Nat} {f : Int} {base : Nat} {ov : Value} {l : List Int} {W : World} (h : LT w ob xb X hv cv lo hi f base ov l W)
    {W1 : World} {v' : Value} {l' : List Int} (hb : Below base W W1) (ho : OwnI W1 base v' l') : LT w ob xb X hv cv lo hi f base v' l' (W1.setCell ⟨ob, 0, none⟩ v') := by
  have o1 := h.o1; have o2 := h.o2; have o3 := h.o3; have o4 := h.o4; have o5 := h.o5; have o6 := h.o6
  have hz := hb.size
  exact ⟨(h.below.trans (hb.mono (by omega))).setCell (p := ⟨ob, 0, none⟩) (by simp; omega) _, (h.rb.upto hb (by omega)).setNe _ (by omega), (h.xbx.upto hb (by omega)).setNe _ (by omega), set1of4 (h.obx.upto hb (by omega)),
    (h.hd.below hb (by omega)).set v' (by omega), (h.cy.below hb (by omega)).set v' (by omega), ho.above ((Above.refl base W1).setCell (by simp; omega) _), o1, o2, o3, o4, by simp; omega, o6⟩

set_option maxRecDepth 100000 in
set_option maxHeartbeats 4000000 in
theorem RShift_ok (h c : Value) (p q : Per) (b : Int) (w : World) (hp : PerIs w h c p) (hv : Valid p) (h0 : -1099511627776 ≤ b) (h1 : b ≤ 1099511627776) (hq : IsCanon q (shiftS p b)) :
    Calls Tryz.prog 9 #[perV h c p.frm p.period, .int .i64 b] w (ShiftRes q w) := by
  have hl : ∀ W, Below w.heap.size w W → PerIs W h c p := fun W hb => hp.ext hb
  have HVB := Lib.hid ((validB_iff p).2 hv)
  have f1 : p.frm ≤ 1125899906842624 := by have := hv.frm; omega
  have f2 : p.period ≤ 1125899906842624 := by have := hv.per; omega
  have HI1 : Hid (InI p.frm) := by have := hv.frm; have := hv.wf.frm; exact Lib.hid ⟨by omega, by omega⟩
  have HI2 : Hid (InI p.period) := by have := hv.per; have := hv.wf.per; exact Lib.hid ⟨by omega, by omega⟩
  have HV := Lib.hid hv
  have g1 := hv.frm
  have g2 := hv.per
  have hk := shiftP_ok hv.wf b
  have HL := Lib.hid hk
  have HQ : Hid (IsCanon q (shiftP p b).mem) := Lib.hid (hq.congr fun n => (hk.2 n).symm)
  obtain ⟨dy, hdy⟩ : ∃ dy, dy = max (-b) 0 := ⟨_, rfl⟩
  have hd0 : 0 ≤ dy := by omega
  have hd1 : dy ≤ 1099511627776 := by omega
  have hdx : max (-b) 0 = dy := hdy.symm
  have HDX := Lib.hid hdx
  obtain ⟨X, hX⟩ : ∃ X, X = laterP p dy := ⟨_, rfl⟩
  have HX := Lib.hid hX
  have hXf : X.frm = max p.frm dy := by rw [hX]; rfl
  have hXp : X.period = p.period := by rw [hX]; rfl
  have hR0 : 0 ≤ X.frm + b := by omega
  have hR1 : X.frm ≤ 1099511627776 := by omega
  have hXw : X.WF := by rw [hX]; exact (laterP_ok hv.wf hd0).1
  have HXW := Lib.hid hXw
  have HSP : Hid (shiftP p b = ⟨X.head.map (· + b), X.frm + b, X.period, X.cycle⟩) := Lib.hid (by rw [hX]; unfold shiftP; rw [hdx]; rfl)
  have hXp2 : X.period ≤ 1099511627776 := by omega
  have hXp1 : 1 ≤ X.period := hXw.per
  clear hp hq hv hk hdy hX hXf hXp hXw hdx
  have d1 : decide (b < -1099511627776) = false := by simp; omega
  have d2 : decide (1099511627776 < b) = false := by simp; omega
  go_enter Tryz.func9, Tryz.ntmps9
  go_upto_region 3 with (go_at_call 16; refine (RValid_any h c p _ (hl _ (by (repeat' (with_reducible first | assumption | exact Ext.refl _ | refine Ext.alloc ?_ _ | refine Ext.drew ?_ | refine Ext.drewN ?_ _ | (refine Ext.setCell ?_ (by first | (simp; done) | (simp; omega) | omega) _) | refine Ext.trans ?_ (by assumption))))) HI1.out HI2.out).mono ?_; rintro e w1 ⟨he, hb1⟩; rw [HVB.out] at he; subst he; obtain ⟨hc1, hf1⟩ := bcell hb1; (try simp only [World.size_alloc, World.size_drew, size_drewN, World.size_setCell] at hc1 hf1); have hz1 := hb1.size; (try simp only [World.size_alloc, World.size_drew, size_drewN, World.size_setCell] at hz1); have hz1' : w.heap.size + 1 < w1.heap.size := by omega)
  have hdx := HDX.out
  go_upto_region 4 with (go_at_call 46; first | rw [HDX.out] | skip; refine (Rlater_any h c p dy _ (hl _ (by (repeat' (with_reducible first | assumption | exact Ext.refl _ | refine Ext.alloc ?_ _ | refine Ext.drew ?_ | refine Ext.drewN ?_ _ | (refine Ext.setCell ?_ (by first | (simp; done) | (simp; omega) | omega) _) | refine Ext.trans ?_ (by assumption))))) HV.out.wf (by omega) (by omega) hd0 (by omega)).mono ?_; rintro e w2 ⟨x1, x2, rfl, ho2, hb2⟩; rw [← HX.out] at ho2 ⊢; obtain ⟨xa1, xn1, xa2, xn2, rfl, rfl⟩ := ho2.form)
  have hrb : BoxIs w2 (w.heap.size + 1) #[.slice none 0 0, .int .i64 0, .int .i64 0, .slice none 0 0] 24 := ((BoxIs.at (by simp)).upto hb1 (by simp)).upto hb2 (by omega)
  have hW2 : Below w.heap.size w w2 := by (repeat' (with_reducible first | assumption | exact Ext.refl _ | refine Ext.alloc ?_ _ | refine Ext.drew ?_ | refine Ext.drewN ?_ _ | (refine Ext.setCell ?_ (by first | (simp; done) | (simp; omega) | omega) _) | refine Ext.trans ?_ (by assumption)))
  have hsz2 := hb2.size
  have hw1z : w.heap.size + 1 < w1.heap.size := hz1'
  clear hc1 hf1 hb1 hb2
  go_upto_region 5 with (fail)
  obtain ⟨xb, hxb⟩ : ∃ xb, xb = w2.heap.size := ⟨_, rfl⟩
  obtain ⟨W4, hW4⟩ : ∃ W4, W4 = (w2.alloc (.cells #[.slice xa1 X.head.length xn1, .int .i64 X.frm, .int .i64 X.period, .slice xa2 X.cycle.length xn2] 24)).alloc (.cells #[.slice none 0 0, .int .i64 (X.frm + b), .int .i64 X.period, .slice xa2 X.cycle.length xn2] 24) := ⟨_, rfl⟩
  have hLT : LT w (xb + 1) xb X (.slice xa1 X.head.length xn1) (.slice xa2 X.cycle.length xn2) w1.heap.size xb (X.frm + b) W4.heap.size (.slice none 0 0) [] W4 := by
    subst hxb hW4
    exact ⟨by (repeat' (with_reducible first | assumption | exact Ext.refl _ | refine Ext.alloc ?_ _ | refine Ext.drew ?_ | refine Ext.drewN ?_ _ | (refine Ext.setCell ?_ (by first | (simp; done) | (simp; omega) | omega) _) | refine Ext.trans ?_ (by assumption))), (hrb.alloc _).alloc _, (BoxIs.at rfl).alloc _, BoxIs.at (by simp), ((ho2.hd.oin).alloc _ (Nat.le_refl _)).alloc _ (by simp), ((ho2.cy.oin).alloc _ (Nat.le_refl _)).alloc _ (by simp), OwnI.nil _ _, by omega, Nat.le_refl _, by omega, by simp, Nat.le_refl _, by omega⟩
  refine wp_abs (F := fun U => LT w (xb + 1) xb X (.slice xa1 X.head.length xn1) (.slice xa2 X.cycle.length xn2) w1.heap.size xb (X.frm + b) W4.heap.size (.slice none 0 0) [] U) (by rw [← hW4]; exact hLT) ?_
  rw [← hxb]
  obtain ⟨base, hbase⟩ : ∃ base, base = W4.heap.size := ⟨_, rfl⟩
  rw [← hbase]
  obtain ⟨lo1, hlo1⟩ : ∃ lo1, lo1 = w1.heap.size := ⟨_, rfl⟩
  rw [← hlo1]
  clear hLT hW4 hxb hbase hlo1 hrb ho2 hW2 hsz2 hw1z hz1 hz1' W4
  rintro W5 hL5
  have HL5 := Lib.hid hL5
  clear hL5
  go_wp2_with fail
  go_loopw [8] (fun i wr => ∃ (k : Nat) (hv : Value), k ≤ X.head.length ∧ i = .int .i64 k ∧ LT w (xb + 1) xb X (.slice xa1 X.head.length xn1) (.slice xa2 X.cycle.length xn2) lo1 xb (X.frm + b) base hv ((X.head.take k).map (· + b)) wr) (fun i _ => X.head.length - (intOf i).toNat)
  case atStart => exact ⟨0, _, by omega, rfl, HL5.out⟩
  case round =>
    obtain ⟨k, hv, hk, rfl, hst⟩ := hrel
    have HST := Lib.hid hst
    have hown := hst.own
    have q0 := (hst.xbx.cells 0).1
    have o0 := (hst.obx.cells 0).1
    have o1 := (hst.obx.cells 1).1
    have o2 := (hst.obx.cells 2).1
    have o3 := (hst.obx.cells 3).1
    have oz := (hst.obx.cells 0).2
    have hs2 := hst.o4
    have hs3 := hst.o5
    have hs4 := hst.o3
    by_cases hlt : k < X.head.length
    · have hlI : (k : Int) < X.head.length := by omega
      obtain ⟨⟨a', c', he, _, _, h38⟩, hlen8, hrg⟩ := hst.hd.own.ints
      injection he with e1 _ e2
      subst e1
      subst e2
      rcases h38 with h38 | ⟨b8, f8, rfl, hcell⟩
      · rw [h38] at hlt
        simp at hlt
      have hcl := hcell k hlt
      have hyb := HXW.out.head.2 _ (getD_mem hlt)
      have HSU : Hid ((X.head.take (k + 1)).map (· + b) = (X.head.take k).map (· + b) ++ [X.head.getD k 0 + b]) := Lib.hid (by
        rw [List.take_succ_eq_append_getElem hlt, List.map_append, List.getD_eq_getElem?_getD, List.getElem?_eq_getElem hlt]; rfl)
      generalize X.head.getD k 0 = y at *
      have HLK : Hid (((X.head.take k).map (· + b)).length = k) := Lib.hid (by simp; omega)
      generalize (X.head.take k).map (· + b) = ML at *
      clear hcell hrg hst
      go_upto_region 8 with (fail)
      refine wp_region_facts (w0 := wr) [0, 1, 2, 3, 4, 5, 6, 7, 8, 9] [10, 11, 12] (fun v => ⟨#[perV h c p.frm p.period, Value.int IntKind.i64 b, Value.pointer (some { block := w.heap.size, off := 0 }), undef, Value.pointer (some { block := w.heap.size + 1, off := 0 }), Value.int IntKind.i64 0, Value.pointer (some { block := xb, off := 0 }), Value.pointer (some { block := xb + 1, off := 0 }), Value.int IntKind.i64 ↑k, undef, Value.agg #[h, Value.int IntKind.i64 p.frm, Value.int IntKind.i64 p.period, c], Value.bool true, Value.bool false, Value.bool false, Value.int IntKind.i64 b, Value.bool false, Value.bool false, Value.bool false, Value.int IntKind.i64 b, Value.bool false, Value.bool false, undef, Value.agg #[h, Value.int IntKind.i64 p.frm, Value.int IntKind.i64 p.period, c], Value.int IntKind.i64 b, Value.int IntKind.i64 (-b), Value.int IntKind.i64 dy, perV (Value.slice (some { block := b8, off := f8 }) X.head.length xn1) (Value.slice xa2 X.cycle.length xn2) X.frm X.period, Value.pointer (some { block := xb, off := 1 }), Value.int IntKind.i64 X.frm, Value.int IntKind.i64 b, Value.int IntKind.i64 (X.frm + b), Value.pointer (some { block := xb, off := 2 }), Value.int IntKind.i64 X.period, Value.pointer (some { block := xb, off := 3 }), Value.slice xa2 X.cycle.length xn2, Value.agg #[Value.slice none 0 0, Value.int IntKind.i64 (X.frm + b), Value.int IntKind.i64 X.period, Value.slice xa2 X.cycle.length xn2], Value.int IntKind.i64 ↑k, Value.pointer (some { block := xb, off := 0 }), Value.slice (some { block := b8, off := f8 }) X.head.length xn1, Value.int IntKind.i64 ↑X.head.length, Value.bool true, u41, u42, v 0, v 1, v 2, v 3, v 4, v 5, v 6, v 7, v 8, v 9, u53, u54, undef, undef, undef, undef, undef, undef, undef], []⟩) (fun j => match j with | 0 => u43 | 1 => u44 | 2 => u45 | 3 => u46 | 4 => u47 | 5 => u48 | 6 => u49 | 7 => u50 | 8 => u51 | 9 => u52 | _ => undef)
        (fun i v lo hi W => match i with
          | 0 => v 0 = .pointer (some ⟨xb + 1, 0, none⟩)
          | 1 => v 1 = hv
          | 2 => v 2 = .pointer (some ⟨xb, 0, none⟩)
          | 3 => v 3 = .slice (some ⟨b8, f8, none⟩) X.head.length xn1
          | 4 => v 4 = .int .i64 k
          | 5 => v 5 = .pointer (some ⟨b8, f8 + k, none⟩)
          | 6 => v 6 = .int .i64 y
          | 7 => v 7 = .int .i64 b
          | 8 => v 8 = .int .i64 (y + b)
          | 9 => v 9 = .slice (some ⟨lo 9, 0, none⟩) 1 1 ∧ lo 9 < hi 9 ∧ BoxIs W (lo 9) #[.int .i64 (y + b)] 3
          | _ => True)
        (fun W => W.cell? ⟨xb, 0, none⟩ = some (.slice (some ⟨b8, f8, none⟩) X.head.length xn1) ∧ W.cell? ⟨b8, f8 + k, none⟩ = some (.int .i64 y) ∧ W.cell? ⟨xb + 1, 0, none⟩ = some hv) rfl (by kernel_rfl) (by decide) rfl ?stab ?loc (fun W9 hb => ⟨cell_upto q0 hb, cell_upto hcl hb, cell_upto o0 hb⟩) ?steps ?fin
      case stab =>
        rintro (_ | _ | _ | _ | _ | _ | _ | _ | _ | _ | i) v lo hi W W' h hb
        · exact h
        · exact h
        · exact h
        · exact h
        · exact h
        · exact h
        · exact h
        · exact h
        · exact h
        · exact ⟨h.1, h.2.1, h.2.2.below hb⟩
        · trivial
      case loc =>
        rintro (_ | _ | _ | _ | _ | _ | _ | _ | _ | _ | i) v v' lo lo' hi hi' W hag h
        · exact (hag 0 (.inl rfl)).1 ▸ h
        · exact (hag 1 (.inl rfl)).1 ▸ h
        · exact (hag 2 (.inl rfl)).1 ▸ h
        · exact (hag 3 (.inl rfl)).1 ▸ h
        · exact (hag 4 (.inl rfl)).1 ▸ h
        · exact (hag 5 (.inl rfl)).1 ▸ h
        · exact (hag 6 (.inl rfl)).1 ▸ h
        · exact (hag 7 (.inl rfl)).1 ▸ h
        · exact (hag 8 (.inl rfl)).1 ▸ h
        · have q := hag 9 (.inl rfl)
          have q8 := hag 8 (.inr (Region.dep (by kernel_rfl)))
          (try dsimp only at h ⊢); (try simp only [q.1, q.2.1, q.2.2, q8.1, q8.2.1, q8.2.2] at h); exact h
        · trivial
      case steps =>
        refine StepsF.cons rfl ?_ (StepsF.cons rfl ?_ (StepsF.cons rfl ?_ (StepsF.cons rfl ?_ (StepsF.cons rfl ?_ (StepsF.cons rfl ?_ (StepsF.cons rfl ?_ (StepsF.cons rfl ?_ (StepsF.cons rfl ?_ (StepsF.cons rfl ?_ StepsF.nil)))))))))
        · rintro v lo hi W hb ⟨g0, g1, g2⟩ hd K hK
          clear hd
          dsimp only
          go_wp2_with fail
          exact act_cast (hK (.pointer (some ⟨xb + 1, 0, none⟩)) W (Below.refl _ _) rfl) (by simp)
        · rintro v lo hi W hb ⟨g0, g1, g2⟩ hd K hK
          have e0 : v 0 = .pointer (some ⟨xb + 1, 0, none⟩) := (hd 0 (Region.dep (by kernel_rfl))).2.2
          clear hd
          dsimp only
          (try simp only [e0])
          go_wp2_with fail
          exact act_cast (hK (hv) W (Below.refl _ _) rfl) (by simp [e0])
        · rintro v lo hi W hb ⟨g0, g1, g2⟩ hd K hK
          clear hd
          dsimp only
          go_wp2_with fail
          exact act_cast (hK (.pointer (some ⟨xb, 0, none⟩)) W (Below.refl _ _) rfl) (by simp)
        · rintro v lo hi W hb ⟨g0, g1, g2⟩ hd K hK
          have e2 : v 2 = .pointer (some ⟨xb, 0, none⟩) := (hd 2 (Region.dep (by kernel_rfl))).2.2
          clear hd
          dsimp only
          (try simp only [e2])
          go_wp2_with fail
          exact act_cast (hK (.slice (some ⟨b8, f8, none⟩) X.head.length xn1) W (Below.refl _ _) rfl) (by simp [e2])
        · rintro v lo hi W hb ⟨g0, g1, g2⟩ hd K hK
          clear hd
          dsimp only
          go_wp2_with fail
          exact act_cast (hK (.int .i64 k) W (Below.refl _ _) rfl) (by simp)
        · rintro v lo hi W hb ⟨g0, g1, g2⟩ hd K hK
          have e3 : v 3 = .slice (some ⟨b8, f8, none⟩) X.head.length xn1 := (hd 3 (Region.dep (by kernel_rfl))).2.2
          have e4 : v 4 = .int .i64 k := (hd 4 (Region.dep (by kernel_rfl))).2.2
          clear hd
          dsimp only
          (try simp only [e3, e4])
          go_wp2_with fail
          exact act_cast (hK (.pointer (some ⟨b8, f8 + k, none⟩)) W (Below.refl _ _) rfl) (by simp [e3, e4])
        · rintro v lo hi W hb ⟨g0, g1, g2⟩ hd K hK
          have e5 : v 5 = .pointer (some ⟨b8, f8 + k, none⟩) := (hd 5 (Region.dep (by kernel_rfl))).2.2
          clear hd
          dsimp only
          (try simp only [e5])
          go_wp2_with fail
          exact act_cast (hK (.int .i64 y) W (Below.refl _ _) rfl) (by simp [e5])
        · rintro v lo hi W hb ⟨g0, g1, g2⟩ hd K hK
          clear hd
          dsimp only
          go_wp2_with fail
          exact act_cast (hK (.int .i64 b) W (Below.refl _ _) rfl) (by simp)
        · rintro v lo hi W hb ⟨g0, g1, g2⟩ hd K hK
          have e6 : v 6 = .int .i64 y := (hd 6 (Region.dep (by kernel_rfl))).2.2
          have e7 : v 7 = .int .i64 b := (hd 7 (Region.dep (by kernel_rfl))).2.2
          clear hd
          dsimp only
          (try simp only [e6, e7])
          go_wp2_with fail
          exact act_cast (hK (.int .i64 (y + b)) W (Below.refl _ _) rfl) (by simp [e6, e7])
        · rintro v lo hi W hb ⟨g0, g1, g2⟩ hd K hK
          have e8 : v 8 = .int .i64 (y + b) := (hd 8 (Region.dep (by kernel_rfl))).2.2
          clear hd
          dsimp only
          (try simp only [e8])
          go_wp2_with fail
          exact act_cast (hK (.slice (some ⟨W.heap.size, 0, none⟩) 1 1) _ (Ext.alloc (Ext.refl _) _) ⟨rfl, by simp, BoxIs.new _ _ _⟩) (by simp [e8])
      case fin =>
        rintro v lo hi W2 hb ⟨g0, g1, g2⟩ hf hap
        show wpList _ _ _ [_, _, _] _ _
        have e1 : v 1 = hv := (hf 1 rfl).2.2.2
        obtain ⟨l7, m7, n7, e7, lt7, hb7⟩ := hf 9 rfl
        have hown1 := hown.ext hb
        have hz2 := hb.size
        have hnew : W2.cell? ⟨lo 9, 0, none⟩ = some (.int .i64 (y + b)) := (hb7.cells 0).1
        clear hf hap g0 g1 g2
        (try dsimp only)
        rw [e1, e7]
        generalize lo 9 = bn at *
        refine append_list (by rfl) _ _ (by rfl) base hv _ (y + b) (by rfl) hown1 _ _ (by rfl) hnew ⟨by omega, by omega⟩ (by have := HLK.out; omega) (by omega) ?_
        intro g cap W3 hown2 hgrow hbel
        have hbel' : Below base wr W3 := (hb.mono hs3).trans hbel
        have hqf2 : W3.frozen? ⟨xb + 1, 0, none⟩ = false := (Below.frozen hbel' (p := ⟨xb + 1, 0, none⟩) hs2).trans oz
        have hqc2 : W3.cell? ⟨xb + 1, 0, none⟩ = some hv := Below.cell' hbel' o0 hs2
        go_wp2_with fail
        go_roundw
        case rel =>
          refine ⟨k + 1, .slice (some ⟨g, 0, none⟩) (ML.length + 1) cap, by omega, by go_num, ?_⟩
          rw [HSU.out]
          exact HST.out.step hbel' hown2
        case measure => simp [intOf]; omega
    · obtain rfl : k = X.head.length := by omega
      obtain ⟨ML, hML⟩ : ∃ ML, ML = (X.head.take X.head.length).map (· + b) := ⟨_, rfl⟩
      rw [← hML] at hown
      have hML2 : ML = X.head.map (· + b) := by rw [hML, List.take_length]
      obtain ⟨hva, hvc, rfl⟩ := hown.form
      have hcy := hst.cy.own.ints
      have hPP : PerIs wr (.slice hva ML.length hvc) (.slice xa2 X.cycle.length xn2) (shiftP p b) := by
        rw [HSP.out]
        refine ⟨?_, hcy⟩
        show Ints wr _ (X.head.map (· + b))
        rw [← hML2]
        exact hown.ints
      have HPP := Lib.hid hPP
      have hrb := hst.rb
      have hbel := hst.below
      have hs1 := hst.o1
      have hs5 := hst.o6
      have HCAN : Hid (Calls Tryz.prog 44 #[.agg #[.slice hva ML.length hvc, .int .i64 (X.frm + b), .int .i64 X.period, .slice xa2 X.cycle.length xn2]] wr (PerRes q wr)) := Lib.hid (by
        have h5 : (shiftP p b).frm ≤ 1125899906842624 := by rw [HSP.out]; show X.frm + b ≤ _; omega
        have h6 : (shiftP p b).period ≤ 1125899906842624 := by rw [HSP.out]; show X.period ≤ _; omega
        have h7 := Rshape_any _ _ (shiftP p b) q wr HPP.out HL.out.1 h5 h6 HQ.out
        have e1 : (shiftP p b).frm = X.frm + b := by rw [HSP.out]
        have e2 : (shiftP p b).period = X.period := by rw [HSP.out]
        rw [e1, e2] at h7
        exact h7)
      clear hst HST HPP hPP hcy hown hML hML2
      go_upto_region 10 with (go_at_call 44; refine HCAN.out.mono ?_; rintro e w3 ⟨y1, y2, rfl, ho3, hb3⟩; obtain ⟨a1, n1, a2, n2, rfl, rfl⟩ := ho3.form)
      have hz3 := hb3.size
      have hzz : w.heap.size ≤ wr.heap.size := hbel.size
      refine wp_abs (F := fun U => BoxIs U w3.heap.size #[.slice a1 q.head.length n1, .int .i64 q.frm, .int .i64 q.period, .slice a2 q.cycle.length n2] 24 ∧ BoxIs U (w.heap.size + 1) #[.slice none 0 0, .int .i64 0, .int .i64 0, .slice none 0 0] 24 ∧ PerOwn U wr.heap.size (.slice a1 q.head.length n1) (.slice a2 q.cycle.length n2) q ∧ Below w.heap.size w U)
        ⟨BoxIs.at rfl, (hrb.below hb3).alloc _, ho3.above ((Above.refl _ _).alloc _), by (repeat' (with_reducible first | assumption | exact Ext.refl _ | refine Ext.alloc ?_ _ | refine Ext.drew ?_ | refine Ext.drewN ?_ _ | (refine Ext.setCell ?_ (by first | (simp; done) | (simp; omega) | omega) _) | refine Ext.trans ?_ (by assumption)))⟩ ?_
      clear hb3 ho3 hrb hbel
      rintro W6 ⟨hY, hR, hO, hE⟩
      have HO := Lib.hid hO
      have y0 := (hY.cells 0).1
      have y1 := (hY.cells 1).1
      have y2 := (hY.cells 2).1
      have y3 := (hY.cells 3).1
      have r0 := hR.cells 0
      have r1 := hR.cells 1
      have r2 := hR.cells 2
      have r3 := hR.cells 3
      clear hO
      have hne1 : w.heap.size + 1 ≠ w3.heap.size := by omega
      have hne2 : w3.heap.size ≠ w.heap.size + 1 := by omega
      by_cases hbig : q.frm ≤ 1099511627776
      · go_wp2_with fail
        exact bodyPost_ret (v := .tuple #[perV (.slice a1 q.head.length n1) (.slice a2 q.cycle.length n2) q.frm q.period, .int .i64 0]) (by simp [results, Tryz.results9, go_sem, *]) rfl ⟨fun _ => ⟨_, _, rfl, (HO.out.above (by (repeat' (with_reducible first | exact Above.refl _ _ | refine Above.alloc ?_ _ | refine Above.drew ?_ | refine Above.drewN ?_ _ | refine Above.setCell ?_ (by first | (simp; done) | (simp; omega) | omega) _)))).mono (by omega), by (repeat' (with_reducible first | assumption | exact Ext.refl _ | refine Ext.alloc ?_ _ | refine Ext.drew ?_ | refine Ext.drewN ?_ _ | (refine Ext.setCell ?_ (by first | (simp; done) | (simp; omega) | omega) _) | refine Ext.trans ?_ (by assumption)))⟩, fun h => absurd hbig (by omega)⟩
      · have hbig' : 1099511627776 < q.frm := by omega
        go_wp2_with fail
        exact bodyPost_ret (v := .tuple #[perV (.slice none 0 0) (.slice none 0 0) 0 0, .int .i64 2]) (by simp [results, Tryz.results9, go_sem, *]) rfl ⟨fun h => absurd h (by omega), fun _ => ⟨rfl, by (repeat' (with_reducible first | assumption | exact Ext.refl _ | refine Ext.alloc ?_ _ | refine Ext.drew ?_ | refine Ext.drewN ?_ _ | (refine Ext.setCell ?_ (by first | (simp; done) | (simp; omega) | omega) _) | refine Ext.trans ?_ (by assumption)))⟩⟩

end Go.Proofs.YtjilkhhokkncoaaGreat
