/- Walks: later (package kalendsref04). -/
import Derived.Test.YtjilkhhokkncoaaGreatQWalkRm
set_option linter.unusedVariables false
set_option linter.unusedSimpArgs false
namespace Go.Proofs.YtjilkhhokkncoaaGreat
open Go.RowKit Go.Maps Kal

theorem laterP_head {p : Per} (h : p.WF) {day : Int} (h0 : 0 ≤ day) : (laterP p day).head = p.head.filter (fun y => decide (day ≤ y)) := by
  have hq := laterP_ok h h0
  have hf := h.frm
  refine hq.1.head.ext (h.head.filter _) fun x => ?_
  rw [List.mem_filter, h.head_mem, hq.1.head_mem, hq.2, decide_eq_true_eq]
  have hF : (laterP p day).frm = max p.frm day := rfl
  rw [hF]
  constructor
  · rintro ⟨a, b, c, d⟩; exact ⟨⟨a, by omega, c⟩, d⟩
  · rintro ⟨⟨a, b, c⟩, d⟩; exact ⟨a, by omega, c, d⟩

theorem laterP_cycle {p : Per} (h : p.WF) {day : Int} (h0 : 0 ≤ day) : (laterP p day).cycle = (sel p.mem (max p.frm day) (max p.frm day + p.period)).map (fun y => y - max p.frm day) := by
  have hq := laterP_ok h h0
  have hf := h.frm
  have hp := h.per
  obtain ⟨F, hF⟩ : ∃ F, F = max p.frm day := ⟨_, rfl⟩
  have hqF : (laterP p day).frm = F := hF.symm
  have hqP : (laterP p day).period = p.period := rfl
  rw [← hF]
  refine sorted_ext hq.1.cyc.1 ?_ fun x => ?_
  · rw [List.pairwise_map]
    exact (sel_rise (by omega)).1.imp (fun h => by omega)
  · rw [List.mem_map]
    have key : ∀ x, 0 ≤ x → x < p.period → (x ∈ (laterP p day).cycle ↔ p.mem (F + x)) := by
      intro x h1 h2
      have e : (laterP p day).mem (F + x) ↔ x ∈ (laterP p day).cycle := by
        rw [Per.mem_hi (by omega) (by rw [hqF]; omega), hqF, hqP, show F + x - F = x from by omega, Int.emod_eq_of_lt h1 h2]
      rw [← e, hq.2]
      exact ⟨fun h => h.1, fun h => ⟨h, by omega⟩⟩
    constructor
    · intro hx
      have hb := hq.1.cyc.2 x hx
      rw [hqP] at hb
      exact ⟨F + x, (sel_mem (by omega) _).2 ⟨by omega, by omega, (key x hb.1 hb.2).1 hx⟩, by omega⟩
    · rintro ⟨y, hy, rfl⟩
      obtain ⟨h1, h2, h3⟩ := (sel_mem (by omega) _).1 hy
      exact (key _ (by omega) (by omega)).2 (by rw [show F + (y - F) = y from by omega]; exact h3)

theorem set1of4 {W : World} {b : Nat} {x0 x1 x2 x3 v : Value} {t : TypeId} (h : BoxIs W b #[x0, x1, x2, x3] t) : BoxIs (W.setCell ⟨b, 0, none⟩ v) b #[v, x1, x2, x3] t := heap_set_at 0 v h

/-- the struct 'out' of later while its Head is made -/
structure LH (w : World) (ob : Nat) (p : Per) (hp cp : Value) (f : Int) (base : Nat) (hv : Value) (l : List Int) (W : World) : Prop where
  below : Below w.heap.size w W
  pb : BoxIs W w.heap.size #[hp, .int .i64 p.frm, .int .i64 p.period, cp] 24
  rb : BoxIs W (w.heap.size + 1) #[.slice none 0 0, .int .i64 0, .int .i64 0, .slice none 0 0] 24
  obx : BoxIs W ob #[hv, .int .i64 f, .int .i64 p.period, .slice none 0 0] 24
  own : OwnI W base hv l
  o1 : w.heap.size + 1 < ob
  o2 : ob < base
  o3 : base ≤ W.heap.size

theorem LH.step {w : World} {ob : Nat} {p : Per} {hp cp : Value} {f : Int} {base : Nat} {hv : Value} {l : List Int} {W : World} (h : LH w ob p hp cp f base hv l W)
    {W1 : World} {v' : Value} {l' : List Int} (hb : Below base W W1) (ho : OwnI W1 base v' l') : LH w ob p hp cp f base v' l' (W1.setCell ⟨ob, 0, none⟩ v') := by
  have o1 := h.o1; have o2 := h.o2; have o3 := h.o3
  have hz := hb.size
  exact ⟨(h.below.trans (hb.mono (by omega))).setCell (p := ⟨ob, 0, none⟩) (by simp; omega) _, (h.pb.upto hb (by omega)).setNe _ (by omega), (h.rb.upto hb (by omega)).setNe _ (by omega), set1of4 (h.obx.upto hb (by omega)),
    ho.above ((Above.refl base W1).setCell (by simp; omega) _), o1, o2, by simp; omega⟩

set_option maxRecDepth 100000 in
set_option maxHeartbeats 4000000 in
theorem Rlater_any (h c : Value) (p : Per) (day : Int) (w : World) (hp : PerIs w h c p) (hw : p.WF) (h1 : p.frm ≤ 2199023255552) (h2 : p.period ≤ 1099511627776) (h0 : 0 ≤ day) (hd : day ≤ 2199023255552) :
    Calls Tryz.prog 46 #[perV h c p.frm p.period, .int .i64 day] w (PerRes (laterP p day) w) := by
  have f0 := hw.frm
  have p0 := hw.per
  obtain ⟨a1, c1, a2, c2, rfl, rfl⟩ := hp.inn.form
  have H1 := Lib.hid hp.hd
  have H2 := Lib.hid hp.cy
  have HP := Lib.hid hp
  have HW := Lib.hid hw
  clear hp hw
  go_enter Tryz.func46, Tryz.ntmps46
  go_upto_region 2 with (fail)
  refine wp_abs (F := fun U => BoxIs U w.heap.size #[.slice a1 p.head.length c1, .int .i64 p.frm, .int .i64 p.period, .slice a2 p.cycle.length c2] 24 ∧ BoxIs U (w.heap.size + 1) #[.slice none 0 0, .int .i64 0, .int .i64 0, .slice none 0 0] 24 ∧
    BoxIs U (w.heap.size + 1 + 1) #[.slice none 0 0, .int .i64 (max p.frm day), .int .i64 p.period, .slice none 0 0] 24 ∧ w.heap.size + 1 + 1 < U.heap.size ∧ Below w.heap.size w U) ⟨by (first | (refine BoxIs.at ?_; simp; done) | (refine (BoxIs.at ?_).alloc _; simp; done) | (refine ((BoxIs.at ?_).alloc _).alloc _; simp; done) | (refine (((BoxIs.at ?_).alloc _).alloc _).alloc _; simp; done) | (refine ((((BoxIs.at ?_).alloc _).alloc _).alloc _).alloc _; simp; done) | (refine (((((BoxIs.at ?_).alloc _).alloc _).alloc _).alloc _).alloc _; simp; done) | (refine ((((((BoxIs.at ?_).alloc _).alloc _).alloc _).alloc _).alloc _).alloc _; simp; done) | (refine (((((((BoxIs.at ?_).alloc _).alloc _).alloc _).alloc _).alloc _).alloc _).alloc _; simp; done) | (refine ((((((((BoxIs.at ?_).alloc _).alloc _).alloc _).alloc _).alloc _).alloc _).alloc _).alloc _; simp; done) | (refine (((((((((BoxIs.at ?_).alloc _).alloc _).alloc _).alloc _).alloc _).alloc _).alloc _).alloc _).alloc _; simp; done) | (refine ((((((((((BoxIs.at ?_).alloc _).alloc _).alloc _).alloc _).alloc _).alloc _).alloc _).alloc _).alloc _).alloc _; simp; done) | (refine (((((((((((BoxIs.at ?_).alloc _).alloc _).alloc _).alloc _).alloc _).alloc _).alloc _).alloc _).alloc _).alloc _).alloc _; simp; done)), by (first | (refine BoxIs.at ?_; simp; done) | (refine (BoxIs.at ?_).alloc _; simp; done) | (refine ((BoxIs.at ?_).alloc _).alloc _; simp; done) | (refine (((BoxIs.at ?_).alloc _).alloc _).alloc _; simp; done) | (refine ((((BoxIs.at ?_).alloc _).alloc _).alloc _).alloc _; simp; done) | (refine (((((BoxIs.at ?_).alloc _).alloc _).alloc _).alloc _).alloc _; simp; done) | (refine ((((((BoxIs.at ?_).alloc _).alloc _).alloc _).alloc _).alloc _).alloc _; simp; done) | (refine (((((((BoxIs.at ?_).alloc _).alloc _).alloc _).alloc _).alloc _).alloc _).alloc _; simp; done) | (refine ((((((((BoxIs.at ?_).alloc _).alloc _).alloc _).alloc _).alloc _).alloc _).alloc _).alloc _; simp; done) | (refine (((((((((BoxIs.at ?_).alloc _).alloc _).alloc _).alloc _).alloc _).alloc _).alloc _).alloc _).alloc _; simp; done) | (refine ((((((((((BoxIs.at ?_).alloc _).alloc _).alloc _).alloc _).alloc _).alloc _).alloc _).alloc _).alloc _).alloc _; simp; done) | (refine (((((((((((BoxIs.at ?_).alloc _).alloc _).alloc _).alloc _).alloc _).alloc _).alloc _).alloc _).alloc _).alloc _).alloc _; simp; done)), by (first | (refine BoxIs.at ?_; simp; done) | (refine (BoxIs.at ?_).alloc _; simp; done) | (refine ((BoxIs.at ?_).alloc _).alloc _; simp; done) | (refine (((BoxIs.at ?_).alloc _).alloc _).alloc _; simp; done) | (refine ((((BoxIs.at ?_).alloc _).alloc _).alloc _).alloc _; simp; done) | (refine (((((BoxIs.at ?_).alloc _).alloc _).alloc _).alloc _).alloc _; simp; done) | (refine ((((((BoxIs.at ?_).alloc _).alloc _).alloc _).alloc _).alloc _).alloc _; simp; done) | (refine (((((((BoxIs.at ?_).alloc _).alloc _).alloc _).alloc _).alloc _).alloc _).alloc _; simp; done) | (refine ((((((((BoxIs.at ?_).alloc _).alloc _).alloc _).alloc _).alloc _).alloc _).alloc _).alloc _; simp; done) | (refine (((((((((BoxIs.at ?_).alloc _).alloc _).alloc _).alloc _).alloc _).alloc _).alloc _).alloc _).alloc _; simp; done) | (refine ((((((((((BoxIs.at ?_).alloc _).alloc _).alloc _).alloc _).alloc _).alloc _).alloc _).alloc _).alloc _).alloc _; simp; done) | (refine (((((((((((BoxIs.at ?_).alloc _).alloc _).alloc _).alloc _).alloc _).alloc _).alloc _).alloc _).alloc _).alloc _).alloc _; simp; done)), by simp, by (repeat' (with_reducible first | assumption | exact Ext.refl _ | refine Ext.alloc ?_ _ | refine Ext.drew ?_ | refine Ext.drewN ?_ _ | (refine Ext.setCell ?_ (by first | (simp; done) | (simp; omega) | omega) _) | refine Ext.trans ?_ (by assumption)))⟩ ?_
  rintro W1 ⟨hpb, hrb, hob, hz1, hE⟩
  obtain ⟨f, hf⟩ : ∃ f, f = max p.frm day := ⟨_, rfl⟩
  rw [← hf] at hob ⊢
  obtain ⟨ob, hobe⟩ : ∃ ob, ob = w.heap.size + 1 + 1 := ⟨_, rfl⟩
  rw [← hobe] at hob hz1 ⊢
  have HF := Lib.hid hf
  have hf1 : p.frm ≤ f ∧ f ≤ 2199023255552 := by omega
  have HLH := Lib.hid (LH.mk hE hpb hrb hob (OwnI.nil W1 W1.heap.size) (by omega) hz1 (Nat.le_refl _))
  have HE := Lib.hid hE
  have hob2 : w.heap.size + 1 < ob := by omega
  clear hpb hrb hob hE hobe hf
  go_wp2_with fail
  go_loopw [6] (fun i wr => ∃ (k : Nat) (hv : Value), k ≤ p.head.length ∧ i = .int .i64 k ∧ LH w ob p (.slice a1 p.head.length c1) (.slice a2 p.cycle.length c2) f W1.heap.size hv ((p.head.take k).filter (fun y => decide (day ≤ y))) wr) (fun i _ => p.head.length - (intOf i).toNat)
  case atStart => exact ⟨0, _, by omega, rfl, HLH.out⟩
  case round =>
    obtain ⟨k, hv, hk, rfl, hst⟩ := hrel
    have HST := Lib.hid hst
    have hown := hst.own
    have q0 := (hst.pb.cells 0).1
    have q1 := (hst.pb.cells 1).1
    have q2 := (hst.pb.cells 2).1
    have q3 := (hst.pb.cells 3).1
    have o0 := (hst.obx.cells 0).1
    have oz := (hst.obx.cells 0).2
    have o1 := (hst.obx.cells 1).1
    have o3 := (hst.obx.cells 3).1
    have hs2 := hst.o2
    have hs3 := hst.o3
    by_cases hlt : k < p.head.length
    · have hlI : (k : Int) < p.head.length := by omega
      obtain ⟨⟨a', c', he, _, _, h38⟩, hlen8, hrg⟩ := H1.out.ext hst.below
      injection he with e1 _ e2
      subst e1; subst e2
      rcases h38 with h38 | ⟨b8, f8, rfl, hcell⟩
      · rw [h38] at hlt; simp at hlt
      have hcl := hcell k hlt
      have hyI := hrg _ (getD_mem hlt)
      unfold InI at hyI
      have HSU := Lib.hid (filter_take_succ2 (fun y => decide (day ≤ y)) hlt)
      have hll := List.length_filter_le (fun y => decide (day ≤ y)) (p.head.take k)
      rw [List.length_take] at hll
      generalize p.head.getD k 0 = y at *
      clear hcell hrg hst
      by_cases hy1 : day ≤ y
      · have d1 : decide (day ≤ y) = true := by simp [hy1]
        go_wp2_with fail
        refine wp_region_facts (w0 := wr) [0, 1, 2, 3, 4, 5, 6, 7] [8, 9, 10] (fun v => ⟨#[perV (Value.slice (some { block := b8, off := f8 }) p.head.length c1) (Value.slice a2 p.cycle.length c2) p.frm p.period, Value.int IntKind.i64 day, Value.pointer (some { block := w.heap.size, off := 0 }), undef, Value.pointer (some { block := w.heap.size + 1, off := 0 }), Value.pointer (some { block := ob, off := 0 }), Value.int IntKind.i64 ↑k, undef, undef, Value.pointer (some { block := w.heap.size, off := 1 }), Value.int IntKind.i64 p.frm, Value.int IntKind.i64 day, Value.int IntKind.i64 f, Value.pointer (some { block := w.heap.size, off := 2 }), Value.int IntKind.i64 p.period, Value.agg #[Value.slice none 0 0, Value.int IntKind.i64 f, Value.int IntKind.i64 p.period, Value.slice none 0 0], Value.int IntKind.i64 ↑k, Value.pointer (some { block := w.heap.size, off := 0 }), Value.slice (some { block := b8, off := f8 }) p.head.length c1, Value.int IntKind.i64 ↑p.head.length, Value.bool true, u21, u22, Value.pointer (some { block := w.heap.size, off := 0 }), Value.slice (some { block := b8, off := f8 }) p.head.length c1, Value.int IntKind.i64 ↑k, Value.pointer (some { block := b8, off := f8 + k }), Value.int IntKind.i64 y, Value.int IntKind.i64 day, Value.bool true, v 0, v 1, v 2, v 3, v 4, v 5, v 6, v 7, u38, u39, undef, undef, undef, undef, undef, undef, undef, undef, undef, undef, undef, undef, undef, undef, undef, undef, undef, undef, undef, undef, undef, undef, undef, undef, undef, undef, undef, undef], []⟩) (fun j => match j with | 0 => u30 | 1 => u31 | 2 => u32 | 3 => u33 | 4 => u34 | 5 => u35 | 6 => u36 | 7 => u37 | _ => undef)
          (fun i v lo hi W => match i with
            | 0 => v 0 = .pointer (some ⟨ob, 0, none⟩)
            | 1 => v 1 = hv
            | 2 => v 2 = .pointer (some ⟨w.heap.size, 0, none⟩)
            | 3 => v 3 = .slice (some ⟨b8, f8, none⟩) p.head.length c1
            | 4 => v 4 = .int .i64 k
            | 5 => v 5 = .pointer (some ⟨b8, f8 + k, none⟩)
            | 6 => v 6 = .int .i64 y
            | 7 => v 7 = .slice (some ⟨lo 7, 0, none⟩) 1 1 ∧ lo 7 < hi 7 ∧ BoxIs W (lo 7) #[.int .i64 y] 3
            | _ => True)
          (fun W => W.cell? ⟨w.heap.size, 0, none⟩ = some (.slice (some ⟨b8, f8, none⟩) p.head.length c1) ∧ W.cell? ⟨b8, f8 + k, none⟩ = some (.int .i64 y) ∧ W.cell? ⟨ob, 0, none⟩ = some hv) rfl (by kernel_rfl) (by decide) rfl ?stab ?loc (fun W9 hb => ⟨cell_upto q0 hb, cell_upto hcl hb, cell_upto o0 hb⟩) ?steps ?fin
        case stab =>
          rintro (_ | _ | _ | _ | _ | _ | _ | _ | i) v lo hi W W' h hb
          · exact h
          · exact h
          · exact h
          · exact h
          · exact h
          · exact h
          · exact h
          · exact ⟨h.1, h.2.1, h.2.2.below hb⟩
          · trivial
        case loc =>
          rintro (_ | _ | _ | _ | _ | _ | _ | _ | i) v v' lo lo' hi hi' W hag h
          · exact (hag 0 (.inl rfl)).1 ▸ h
          · exact (hag 1 (.inl rfl)).1 ▸ h
          · exact (hag 2 (.inl rfl)).1 ▸ h
          · exact (hag 3 (.inl rfl)).1 ▸ h
          · exact (hag 4 (.inl rfl)).1 ▸ h
          · exact (hag 5 (.inl rfl)).1 ▸ h
          · exact (hag 6 (.inl rfl)).1 ▸ h
          · have q := hag 7 (.inl rfl)
            have q6 := hag 6 (.inr (Region.dep (by kernel_rfl)))
            (try dsimp only at h ⊢); (try simp only [q.1, q.2.1, q.2.2, q6.1, q6.2.1, q6.2.2] at h); exact h
          · trivial
        case steps =>
          refine StepsF.cons rfl ?_ (StepsF.cons rfl ?_ (StepsF.cons rfl ?_ (StepsF.cons rfl ?_ (StepsF.cons rfl ?_ (StepsF.cons rfl ?_ (StepsF.cons rfl ?_ (StepsF.cons rfl ?_ StepsF.nil)))))))
          · rintro v lo hi W hb ⟨g0, g1, g2⟩ hd K hK
            clear hd
            dsimp only
            go_wp2_with fail
            exact act_cast (hK (.pointer (some ⟨ob, 0, none⟩)) W (Below.refl _ _) rfl) (by simp)
          · rintro v lo hi W hb ⟨g0, g1, g2⟩ hd K hK
            have e0 : v 0 = .pointer (some ⟨ob, 0, none⟩) := (hd 0 (Region.dep (by kernel_rfl))).2.2
            clear hd
            dsimp only
            (try simp only [e0])
            go_wp2_with fail
            exact act_cast (hK (hv) W (Below.refl _ _) rfl) (by simp [e0])
          · rintro v lo hi W hb ⟨g0, g1, g2⟩ hd K hK
            clear hd
            dsimp only
            go_wp2_with fail
            exact act_cast (hK (.pointer (some ⟨w.heap.size, 0, none⟩)) W (Below.refl _ _) rfl) (by simp)
          · rintro v lo hi W hb ⟨g0, g1, g2⟩ hd K hK
            have e2 : v 2 = .pointer (some ⟨w.heap.size, 0, none⟩) := (hd 2 (Region.dep (by kernel_rfl))).2.2
            clear hd
            dsimp only
            (try simp only [e2])
            go_wp2_with fail
            exact act_cast (hK (.slice (some ⟨b8, f8, none⟩) p.head.length c1) W (Below.refl _ _) rfl) (by simp [e2])
          · rintro v lo hi W hb ⟨g0, g1, g2⟩ hd K hK
            clear hd
            dsimp only
            go_wp2_with fail
            exact act_cast (hK (.int .i64 k) W (Below.refl _ _) rfl) (by simp)
          · rintro v lo hi W hb ⟨g0, g1, g2⟩ hd K hK
            have e3 : v 3 = .slice (some ⟨b8, f8, none⟩) p.head.length c1 := (hd 3 (Region.dep (by kernel_rfl))).2.2
            have e4 : v 4 = .int .i64 k := (hd 4 (Region.dep (by kernel_rfl))).2.2
            clear hd
            dsimp only
            (try simp only [e3, e4])
            go_wp2_with fail
            exact act_cast (hK (.pointer (some ⟨b8, f8 + k, none⟩)) W (Below.refl _ _) rfl) (by simp [e3, e4])
          · rintro v lo hi W hb ⟨g0, g1, g2⟩ hd K hK
            have e5 : v 5 = .pointer (some ⟨b8, f8 + k, none⟩) := (hd 5 (Region.dep (by kernel_rfl))).2.2
            clear hd
            dsimp only
            (try simp only [e5])
            go_wp2_with fail
            exact act_cast (hK (.int .i64 y) W (Below.refl _ _) rfl) (by simp [e5])
          · rintro v lo hi W hb ⟨g0, g1, g2⟩ hd K hK
            have e6 : v 6 = .int .i64 y := (hd 6 (Region.dep (by kernel_rfl))).2.2
            clear hd
            dsimp only
            (try simp only [e6])
            go_wp2_with fail
            exact act_cast (hK (.slice (some ⟨W.heap.size, 0, none⟩) 1 1) _ (Ext.alloc (Ext.refl _) _) ⟨rfl, by simp, BoxIs.new _ _ _⟩) (by simp [e6])
        case fin =>
          rintro v lo hi W2 hb ⟨g0, g1, g2⟩ hf hap
          show wpList _ _ _ [_, _, _] _ _
          have e1 : v 1 = hv := (hf 1 rfl).2.2.2
          obtain ⟨l7, m7, n7, e7, lt7, hb7⟩ := hf 7 rfl
          have hown1 := hown.ext hb
          have hz2 := hb.size
          have hnew : W2.cell? ⟨lo 7, 0, none⟩ = some (.int .i64 y) := (hb7.cells 0).1
          clear hf hap g0 g1 g2
          dsimp only
          rw [e1, e7]
          generalize lo 7 = bn at *
          refine append_list (by rfl) _ _ (by rfl) W1.heap.size hv _ y (by rfl) hown1 _ _ (by rfl) hnew ⟨by omega, by omega⟩ (by omega) (by omega) ?_
          intro g cap W3 hown2 hgrow hbel
          have hbel' : Below W1.heap.size wr W3 := (hb.mono hs3).trans hbel
          have hqf2 : W3.frozen? ⟨ob, 0, none⟩ = false := (Below.frozen hbel' (p := ⟨ob, 0, none⟩) hs2).trans oz
          have hqc2 : W3.cell? ⟨ob, 0, none⟩ = some hv := Below.cell' hbel' o0 hs2
          go_wp2_with fail
          go_roundw
          case rel =>
            refine ⟨k + 1, .slice (some ⟨g, 0, none⟩) (((p.head.take k).filter (fun y => decide (day ≤ y))).length + 1) cap, by omega, by go_num, ?_⟩
            rw [HSU.out, if_pos d1]
            exact HST.out.step hbel' hown2
          case measure => simp [intOf]; omega
      · have d1 : decide (day ≤ y) = false := by simp; omega
        go_wp2_with fail
        go_roundw
        case rel =>
          refine ⟨k + 1, hv, by omega, by go_num, ?_⟩
          rw [HSU.out, if_neg (by rw [d1]; simp), List.append_nil]; exact HST.out
        case measure => simp [intOf]; omega
    · obtain rfl : k = p.head.length := by omega
      rw [List.take_length, ← laterP_head HW.out h0] at HST hown
      obtain ⟨hl, hhl⟩ : ∃ hl, hl = (laterP p day).head := ⟨_, rfl⟩
      rw [← hhl] at HST hown
      have HHL := Lib.hid hhl
      obtain ⟨a9, c9, rfl⟩ := hown.form
      have hpb := HST.out.pb
      have hrb := HST.out.rb
      have hobx := HST.out.obx
      have hbw := HST.out.below
      have hop := hown.oin
      clear hst hhl
      go_wp2_with (go_at_call 50; refine (RMembers_any _ _ p f (f + p.period) _ (HP.out.ext (by (repeat' (with_reducible first | assumption | exact Ext.refl _ | refine Ext.alloc ?_ _ | refine Ext.drew ?_ | refine Ext.drewN ?_ _ | (refine Ext.setCell ?_ (by first | (simp; done) | (simp; omega) | omega) _) | refine Ext.trans ?_ (by assumption))))) HW.out (by omega) (by omega) (by omega) (by omega) (by omega) (by omega)).mono ?_; rintro e W4 ⟨mv, he, hmv, hb4⟩; subst he)
      obtain ⟨cl, hcl⟩ : ∃ cl, cl = sel p.mem f (f + p.period) := ⟨_, rfl⟩
      rw [← hcl] at hmv
      have hcb : ∀ y ∈ cl, f ≤ y ∧ y < f + p.period := fun y hy => by rw [hcl] at hy; have := (sel_mem (by omega) _).1 hy; omega
      have HCB := Lib.hid hcb
      have HCL := Lib.hid hcl
      obtain ⟨m8, c8, rfl⟩ := hmv.form
      have hz4 := hb4.size
      have HLI := Lib.hid (LI.mk (hbw.trans (hb4.mono (by omega))) (hpb.upto hb4 (by omega)) (hrb.upto hb4 (by omega)) (hobx.upto hb4 (by omega)) (OwnI.nil W4 W4.heap.size) (hop.below hb4 (Nat.le_refl _)) hob2 (by omega) (Nat.le_refl _) (.inl hs2) (by omega) (by omega))
      have HMV := Lib.hid hmv.oin
      clear hmv hcl hcb hpb hrb hobx hbw hop hown
      go_loopw [8] (fun i wq => ∃ (k : Nat) (cyv : Value), k ≤ cl.length ∧ i = .int .i64 k ∧ LI w ob p (.slice a1 p.head.length c1) (.slice a2 p.cycle.length c2) f W1.heap.size wr.heap.size (.slice a9 hl.length c9) hl W4.heap.size cyv ((cl.take k).map fun y => y - f) wq ∧ OwnIn wq wr.heap.size W4.heap.size (.slice m8 cl.length c8) cl) (fun i _ => cl.length - (intOf i).toNat)
      case atStart => exact ⟨0, _, by omega, rfl, HLI.out, HMV.out⟩
      case round =>
        obtain ⟨k, cyv, hk, rfl, hTw, hmv⟩ := hrel
        have HMV := Lib.hid hmv
        have HTW := Lib.hid hTw
        have o0 := (hTw.obx.cells 0).1
        have o1 := (hTw.obx.cells 1).1
        have o2 := (hTw.obx.cells 2).1
        have o3 := (hTw.obx.cells 3).1
        have oz := (hTw.obx.cells 3).2
        have hs5 := hTw.o2
        have hs6 := hTw.o3
        have hown := hTw.own
        by_cases hlt : k < cl.length
        · have hlI : (k : Int) < cl.length := by omega
          obtain ⟨⟨a', c', he, _, _, h38⟩, hlen8, hrg⟩ := hmv.own.ints
          injection he with e1 _ e2
          subst e1; subst e2
          rcases h38 with h38 | ⟨b8, f8, rfl, hcell⟩
          · rw [h38] at hlt; simp at hlt
          have hcl := hcell k hlt
          have hyb := HCB.out _ (getD_mem hlt)
          have htk : ((cl.take (k + 1)).map fun y => y - f) = ((cl.take k).map fun y => y - f) ++ [cl.getD k 0 - f] := by
            rw [List.take_succ_eq_append_getElem hlt, List.map_append, List.getD_eq_getElem?_getD, List.getElem?_eq_getElem hlt]; rfl
          have HTK := Lib.hid htk
          generalize cl.getD k 0 = y at *
          have hlen : ((cl.take k).map fun y => y - f).length = k := by simp; omega
          have HLEN := Lib.hid hlen
          clear hcell hrg hTw hmv htk hlen
          go_wp2_with fail
          refine wp_region_facts (w0 := wr) [0, 1, 2, 3, 4, 5, 6, 7, 8, 9] [10, 11, 12] (fun v => ⟨#[perV (Value.slice a1 p.head.length c1) (Value.slice a2 p.cycle.length c2) p.frm p.period, Value.int IntKind.i64 day, Value.pointer (some { block := w.heap.size, off := 0 }), undef, Value.pointer (some { block := w.heap.size + 1, off := 0 }), Value.pointer (some { block := ob, off := 0 }), Value.int IntKind.i64 ↑p.head.length, Value.slice (some { block := b8, off := f8 }) cl.length c8, Value.int IntKind.i64 ↑k, Value.pointer (some { block := w.heap.size, off := 1 }), Value.int IntKind.i64 p.frm, Value.int IntKind.i64 day, Value.int IntKind.i64 f, Value.pointer (some { block := w.heap.size, off := 2 }), Value.int IntKind.i64 p.period, Value.agg #[Value.slice none 0 0, Value.int IntKind.i64 f, Value.int IntKind.i64 p.period, Value.slice none 0 0], Value.int IntKind.i64 ↑p.head.length, Value.pointer (some { block := w.heap.size, off := 0 }), Value.slice a1 p.head.length c1, Value.int IntKind.i64 ↑p.head.length, Value.bool false, u21, u22, u23, u24, u25, u26, u27, u28, u29, u30, u31, u32, u33, u34, u35, u36, u37, u38, u39, Value.agg #[Value.slice a1 p.head.length c1, Value.int IntKind.i64 p.frm, Value.int IntKind.i64 p.period, Value.slice a2 p.cycle.length c2], Value.pointer (some { block := ob, off := 1 }), Value.int IntKind.i64 f, Value.pointer (some { block := ob, off := 1 }), Value.int IntKind.i64 f, Value.pointer (some { block := w.heap.size, off := 2 }), Value.int IntKind.i64 p.period, Value.int IntKind.i64 (f + p.period), Value.slice (some { block := b8, off := f8 }) cl.length c8, Value.int IntKind.i64 ↑k, Value.slice (some { block := b8, off := f8 }) cl.length c8, Value.int IntKind.i64 ↑cl.length, Value.bool true, u53, u54, v 0, v 1, v 2, v 3, v 4, v 5, v 6, v 7, v 8, v 9, u65, u66, undef], []⟩) (fun j => match j with | 0 => u55 | 1 => u56 | 2 => u57 | 3 => u58 | 4 => u59 | 5 => u60 | 6 => u61 | 7 => u62 | 8 => u63 | 9 => u64 | _ => undef)
            (fun i v lo hi W => match i with
              | 0 => v 0 = .pointer (some ⟨ob, 3, none⟩)
              | 1 => v 1 = cyv
              | 2 => v 2 = .slice (some ⟨b8, f8, none⟩) cl.length c8
              | 3 => v 3 = .int .i64 k
              | 4 => v 4 = .pointer (some ⟨b8, f8 + k, none⟩)
              | 5 => v 5 = .int .i64 y
              | 6 => v 6 = .pointer (some ⟨ob, 1, none⟩)
              | 7 => v 7 = .int .i64 f
              | 8 => v 8 = .int .i64 (y - f)
              | 9 => v 9 = .slice (some ⟨lo 9, 0, none⟩) 1 1 ∧ lo 9 < hi 9 ∧ BoxIs W (lo 9) #[.int .i64 (y - f)] 3
              | _ => True)
            (fun W => W.cell? ⟨b8, f8 + k, none⟩ = some (.int .i64 y) ∧ W.cell? ⟨ob, 1, none⟩ = some (.int .i64 f) ∧ W.cell? ⟨ob, 3, none⟩ = some cyv) rfl (by kernel_rfl) (by decide) rfl ?stab ?loc (fun W9 hb => ⟨cell_upto hcl hb, cell_upto o1 hb, cell_upto o3 hb⟩) ?steps ?fin
          case stab =>
            rintro (_ | _ | _ | _ | _ | _ | _ | _ | _ | _ | i) v lo hi W W' h hb
            · exact h
            · exact h
            · exact h
            · exact h
            · exact h
            · exact h
            · exact h
            · exact h
            · exact h
            · exact ⟨h.1, h.2.1, h.2.2.below hb⟩
            · trivial
          case loc =>
            rintro (_ | _ | _ | _ | _ | _ | _ | _ | _ | _ | i) v v' lo lo' hi hi' W hag h
            · exact (hag 0 (.inl rfl)).1 ▸ h
            · exact (hag 1 (.inl rfl)).1 ▸ h
            · exact (hag 2 (.inl rfl)).1 ▸ h
            · exact (hag 3 (.inl rfl)).1 ▸ h
            · exact (hag 4 (.inl rfl)).1 ▸ h
            · exact (hag 5 (.inl rfl)).1 ▸ h
            · exact (hag 6 (.inl rfl)).1 ▸ h
            · exact (hag 7 (.inl rfl)).1 ▸ h
            · exact (hag 8 (.inl rfl)).1 ▸ h
            · have q := hag 9 (.inl rfl)
              have q8 := hag 8 (.inr (Region.dep (by kernel_rfl)))
              (try dsimp only at h ⊢); (try simp only [q.1, q.2.1, q.2.2, q8.1, q8.2.1, q8.2.2] at h); exact h
            · trivial
          case steps =>
            refine StepsF.cons rfl ?_ (StepsF.cons rfl ?_ (StepsF.cons rfl ?_ (StepsF.cons rfl ?_ (StepsF.cons rfl ?_ (StepsF.cons rfl ?_ (StepsF.cons rfl ?_ (StepsF.cons rfl ?_ (StepsF.cons rfl ?_ (StepsF.cons rfl ?_ StepsF.nil)))))))))
            · rintro v lo hi W hb ⟨g0, g1, g2⟩ hd K hK
              clear hd
              dsimp only
              go_wp2_with fail
              exact act_cast (hK (.pointer (some ⟨ob, 3, none⟩)) W (Below.refl _ _) rfl) (by simp)
            · rintro v lo hi W hb ⟨g0, g1, g2⟩ hd K hK
              have e0 : v 0 = .pointer (some ⟨ob, 3, none⟩) := (hd 0 (Region.dep (by kernel_rfl))).2.2
              clear hd
              dsimp only
              (try simp only [e0])
              go_wp2_with fail
              exact act_cast (hK (cyv) W (Below.refl _ _) rfl) (by simp [e0])
            · rintro v lo hi W hb ⟨g0, g1, g2⟩ hd K hK
              clear hd
              dsimp only
              go_wp2_with fail
              exact act_cast (hK (.slice (some ⟨b8, f8, none⟩) cl.length c8) W (Below.refl _ _) rfl) (by simp)
            · rintro v lo hi W hb ⟨g0, g1, g2⟩ hd K hK
              clear hd
              dsimp only
              go_wp2_with fail
              exact act_cast (hK (.int .i64 k) W (Below.refl _ _) rfl) (by simp)
            · rintro v lo hi W hb ⟨g0, g1, g2⟩ hd K hK
              have e2 : v 2 = .slice (some ⟨b8, f8, none⟩) cl.length c8 := (hd 2 (Region.dep (by kernel_rfl))).2.2
              have e3 : v 3 = .int .i64 k := (hd 3 (Region.dep (by kernel_rfl))).2.2
              clear hd
              dsimp only
              (try simp only [e2, e3])
              go_wp2_with fail
              exact act_cast (hK (.pointer (some ⟨b8, f8 + k, none⟩)) W (Below.refl _ _) rfl) (by simp [e2, e3])
            · rintro v lo hi W hb ⟨g0, g1, g2⟩ hd K hK
              have e4 : v 4 = .pointer (some ⟨b8, f8 + k, none⟩) := (hd 4 (Region.dep (by kernel_rfl))).2.2
              clear hd
              dsimp only
              (try simp only [e4])
              go_wp2_with fail
              exact act_cast (hK (.int .i64 y) W (Below.refl _ _) rfl) (by simp [e4])
            · rintro v lo hi W hb ⟨g0, g1, g2⟩ hd K hK
              clear hd
              dsimp only
              go_wp2_with fail
              exact act_cast (hK (.pointer (some ⟨ob, 1, none⟩)) W (Below.refl _ _) rfl) (by simp)
            · rintro v lo hi W hb ⟨g0, g1, g2⟩ hd K hK
              have e6 : v 6 = .pointer (some ⟨ob, 1, none⟩) := (hd 6 (Region.dep (by kernel_rfl))).2.2
              clear hd
              dsimp only
              (try simp only [e6])
              go_wp2_with fail
              exact act_cast (hK (.int .i64 f) W (Below.refl _ _) rfl) (by simp [e6])
            · rintro v lo hi W hb ⟨g0, g1, g2⟩ hd K hK
              have e5 : v 5 = .int .i64 y := (hd 5 (Region.dep (by kernel_rfl))).2.2
              have e7 : v 7 = .int .i64 f := (hd 7 (Region.dep (by kernel_rfl))).2.2
              clear hd
              dsimp only
              (try simp only [e5, e7])
              go_wp2_with fail
              exact act_cast (hK (.int .i64 (y - f)) W (Below.refl _ _) rfl) (by simp [e5, e7])
            · rintro v lo hi W hb ⟨g0, g1, g2⟩ hd K hK
              have e8 : v 8 = .int .i64 (y - f) := (hd 8 (Region.dep (by kernel_rfl))).2.2
              clear hd
              dsimp only
              (try simp only [e8])
              go_wp2_with fail
              exact act_cast (hK (.slice (some ⟨W.heap.size, 0, none⟩) 1 1) _ (Ext.alloc (Ext.refl _) _) ⟨rfl, by simp, BoxIs.new _ _ _⟩) (by simp [e8])
          case fin =>
            rintro v lo hi W2 hb ⟨g0, g1, g2⟩ hf hap
            show wpList _ _ _ [_, _, _] _ _
            have e1 : v 1 = cyv := (hf 1 rfl).2.2.2
            obtain ⟨l9, m9, n9, e9, lt9, hb9⟩ := hf 9 rfl
            have hown1 := hown.ext hb
            have hz2 := hb.size
            have hnew : W2.cell? ⟨lo 9, 0, none⟩ = some (.int .i64 (y - f)) := (hb9.cells 0).1
            clear hf hap g0 g1 g2
            dsimp only
            rw [e1, e9]
            generalize lo 9 = bn at *
            refine append_list (by rfl) _ _ (by rfl) W4.heap.size cyv _ (y - f) (by rfl) hown1 _ _ (by rfl) hnew ⟨by omega, by omega⟩ (by rw [HLEN.out]; omega) (by omega) ?_
            intro g cap W3 hown2 hgrow hbel
            rw [HLEN.out] at hown2 ⊢
            have hbel' : Below W4.heap.size wr W3 := (hb.mono hs6).trans hbel
            have hqf2 : W3.frozen? ⟨ob, 3, none⟩ = false := (Below.frozen hbel' (p := ⟨ob, 3, none⟩) hs5).trans oz
            have hqc2 : W3.cell? ⟨ob, 3, none⟩ = some cyv := Below.cell' hbel' o3 hs5
            go_wp2_with fail
            go_roundw
            case rel =>
              refine ⟨k + 1, .slice (some ⟨g, 0, none⟩) (k + 1) cap, by omega, by go_num, ?_, ?_⟩
              · rw [HTK.out]
                exact HTW.out.step hbel' hown2
              · exact (HMV.out.below hbel' (Nat.le_refl _)).set _ (.inl (by omega))
            case measure => simp [intOf]; omega
        · obtain rfl : k = cl.length := by omega
          have hcy := hown.oin
          rw [List.take_length] at hcy
          have hcq : (laterP p day).cycle = cl.map (fun y => y - f) := by rw [laterP_cycle HW.out h0, ← HF.out, ← HCL.out]
          rw [← hcq] at hcy
          obtain ⟨ql, hql⟩ : ∃ ql, ql = (laterP p day).cycle := ⟨_, rfl⟩
          rw [← hql] at hcy
          have HQL := Lib.hid hql
          have HCY := Lib.hid hcy
          obtain ⟨ya, yc, rfl⟩ := hcy.own.form
          have hhd := HTW.out.hd
          have hrb2 := HTW.out.rb
          have o6 := HTW.out.o6
          have hbW := HTW.out.below
          have j0 := hrb2.cells 0
          have j1 := hrb2.cells 1
          have j2 := hrb2.cells 2
          have j3 := hrb2.cells 3
          have HHD := Lib.hid hhd
          have hrs := hrb2.lt
          clear hcy hql hcq hown hTw hmv hhd hrb2
          go_wp2_with fail
          refine bodyPost_ret (v := perV (.slice a9 hl.length c9) (.slice ya ql.length yc) f p.period) (by simp [results, Tryz.results46, go_sem, *]) rfl ⟨.slice a9 hl.length c9, .slice ya ql.length yc, ?_, ⟨?_, ?_⟩, by (repeat' (with_reducible first | assumption | exact Ext.refl _ | refine Ext.alloc ?_ _ | refine Ext.drew ?_ | refine Ext.drewN ?_ _ | (refine Ext.setCell ?_ (by first | (simp; done) | (simp; omega) | omega) _) | refine Ext.trans ?_ (by assumption)))⟩
          · simp only [laterP, HF.out]
          · have h1 : OwnIn _ _ _ (.slice a9 hl.length c9) hl := (((HHD.out.set (b := w.heap.size + 1) (i := 0) (.slice a9 hl.length c9) (by omega)).set (b := w.heap.size + 1) (i := 1) (.int .i64 f) (by omega)).set (b := w.heap.size + 1) (i := 2) (.int .i64 p.period) (by omega)).set (b := w.heap.size + 1) (i := 3) (.slice ya ql.length yc) (by omega)
            have h2 := h1.own.mono (base' := w.heap.size) (by omega)
            rw [← HHL.out]; exact h2
          · have h1 : OwnIn _ _ _ (.slice ya ql.length yc) ql := (((HCY.out.set (b := w.heap.size + 1) (i := 0) (.slice a9 hl.length c9) (by omega)).set (b := w.heap.size + 1) (i := 1) (.int .i64 f) (by omega)).set (b := w.heap.size + 1) (i := 2) (.int .i64 p.period) (by omega)).set (b := w.heap.size + 1) (i := 3) (.slice ya ql.length yc) (by omega)
            have h2 := h1.own.mono (base' := w.heap.size) (by omega)
            rw [← HQL.out]; exact h2

end Go.Proofs.YtjilkhhokkncoaaGreat
