/- Walks: Next (package periodic). -/
import Derived.Test.YtjilkhhokkncoaaGreatQK5
set_option linter.unusedVariables false
set_option linter.unusedSimpArgs false
namespace Go.Proofs.YtjilkhhokkncoaaGreat
open Go.RowKit Go.Shelf Kal
attribute [local go_sem] Oper.semAt_some

/-- n is the least member of S from d on; or there is none -/
def NextIs (S : Int → Prop) (d n : Int) (b : Bool) : Prop := (b = true ∧ d ≤ n ∧ S n ∧ ∀ x, d ≤ x → x < n → ¬ S x) ∨ (b = false ∧ n = 0 ∧ ∀ x, d ≤ x → ¬ S x)

theorem NextIs.unique {S : Int → Prop} {d n m : Int} {a b : Bool} (h1 : NextIs S d n a) (h2 : NextIs S d m b) : n = m ∧ a = b := by
  rcases h1 with ⟨rfl, h3, h4, h5⟩ | ⟨rfl, rfl, h3⟩ <;> rcases h2 with ⟨rfl, k3, k4, k5⟩ | ⟨rfl, rfl, k3⟩
  · refine ⟨?_, rfl⟩
    rcases Int.lt_or_le n m with h | h
    · exact absurd h4 (k5 n h3 h)
    · rcases Int.lt_or_le m n with h' | h'
      · exact absurd k4 (h5 m k3 h')
      · omega
  · exact absurd h4 (k3 n h3)
  · exact absurd k4 (h3 m k3)
  · exact ⟨rfl, rfl⟩

/-- Next's two result boxes -/
structure NI (w : World) (r1 r2 : Nat) (v1 v2 : Value) (W : World) : Prop where
  below : Below w.heap.size w W
  b1 : BoxIs W r1 #[v1] 3
  b2 : BoxIs W r2 #[v2] 4

theorem NI.grow {w : World} {r1 r2 : Nat} {v1 v2 : Value} {W W' : World} {row : Option Nat} (h : NI w r1 r2 v1 v2 W) (hg : W.grownBy W' row)
    (hr : ∀ r, row = some r → w.heap.size ≤ r ∧ ((r ≠ r1 ∧ r ≠ r2) ∨ ∃ o : Obj, W.heap[r]? = some o ∧ o.isCells = false)) : NI w r1 r2 v1 v2 W' := by
  have key : ∀ {b : Nat} {c : Array Value} {t : TypeId}, BoxIs W b c t → (b = r1 ∨ b = r2) → BoxIs W' b c t := fun {b c t} hx hbo => by
    refine (hg.block b hx.lt fun e => ?_).trans hx
    obtain ⟨_, h1 | ⟨o, ho, hc⟩⟩ := hr b e.symm
    · rcases hbo with rfl | rfl <;> simp at h1
    · rw [show W.heap[b]? = _ from hx] at ho; cases ho; cases hc
  exact ⟨h.below.grown hg h.below.size (fun k e => (hr k e).1), key h.b1 (.inl rfl), key h.b2 (.inr rfl)⟩

def NextRes (S : Int → Prop) (d : Int) (w : World) (e : Ending) (w' : World) : Prop := ∃ (n : Int) (b : Bool), e = .returned (.tuple #[.int .i64 n, .bool b]) ∧ NextIs S d n b ∧ Below w.heap.size w w'

set_option maxRecDepth 100000 in
set_option maxHeartbeats 2000000 in
theorem next_ok (h c : Value) (p : Per) (day : Int) (w : World) (hp : PerIs w h c p) (hv : Valid p) (h0 : -9223372036854775808 ≤ day) (hd1 : day ≤ 1099511627776) :
    Calls Tryz.prog 12 #[perV h c p.frm p.period, .int .i64 day] w (NextRes p.mem (max day 0) w) := by
  obtain ⟨a1, c1, a2, c2, rfl, rfl⟩ := hp.inn.form
  have hl : ∀ W, Below w.heap.size w W → PerIs W (.slice a1 p.head.length c1) (.slice a2 p.cycle.length c2) p := fun W hb => hp.ext hb
  have hvb := (validB_iff p).2 hv
  have HV := Lib.hid hv
  have HP := Lib.hid hp
  have hdb : decide ((1099511627776 : Int) < day) = false := by rw [decide_eq_false_iff_not]; omega
  have m0 : 0 ≤ max day 0 := by omega
  have m1 : max day 0 ≤ 1099511627776 := by omega
  clear hv hp
  refine callsIn_wide (n := 0).1 ?_
  refine callsIn_of_wp_marks Tryz.func12 rfl trivial ?_ rfl
  simp only [Tryz.ntmps12, List.size_toArray, List.length_cons, List.length_nil, Nat.reduceAdd, Nat.reduceSub, Array.replicate_succ, Array.replicate_zero, List.push_toArray, List.append_toArray, List.nil_append, List.cons_append]
  gi_wp2_with (refine ⟨trivial, rfl, ?_⟩; gi_at_call 15; refine (callsIn_wide.2 (valid_any _ _ p _ (hl _ (by (repeat' (with_reducible first | assumption | exact Ext.refl _ | refine Ext.alloc ?_ _ | refine Ext.drew ?_ | refine Ext.drewN ?_ _ | (refine Ext.setCell ?_ (by first | (simp; done) | (simp; omega) | omega) _) | refine Ext.trans ?_ (by assumption))))))).mono ?_; rintro e w1 ⟨rfl, hb1⟩; obtain ⟨hc1, hf1⟩ := bcell hb1; (try simp only [World.size_alloc, World.size_drew, size_drewN, World.size_setCell] at hc1 hf1); have hz1 : w.heap.size + 2 < w1.heap.size := (by have h7 := hb1.size; simp at h7; omega))
  refine ⟨trivial, rfl, ?_⟩
  generalize max day 0 = d at *
  refine (callsIn_wide.2 (from_any (.slice a1 p.head.length c1) (.slice a2 p.cycle.length c2) p d _ ⟨_, _, _, _, _, _, rfl, rfl⟩)).mono ?_
  rintro e w' ⟨rfl, rfl⟩
  gi_wp2_with fail
  generalize hW0 : (w1.alloc _).alloc _ = W0
  have hE : Below w.heap.size w W0 := by rw [← hW0]; (repeat' (with_reducible first | assumption | exact Ext.refl _ | refine Ext.alloc ?_ _ | refine Ext.drew ?_ | refine Ext.drewN ?_ _ | (refine Ext.setCell ?_ (by first | (simp; done) | (simp; omega) | omega) _) | refine Ext.trans ?_ (by assumption)))
  have hsz : W0.heap.size = w1.heap.size + 2 := by rw [← hW0]; simp
  have hb0 : Below w1.heap.size w1 W0 := by rw [← hW0]; (repeat' (with_reducible first | assumption | exact Ext.refl _ | refine Ext.alloc ?_ _ | refine Ext.drew ?_ | refine Ext.drewN ?_ _ | (refine Ext.setCell ?_ (by first | (simp; done) | (simp; omega) | omega) _) | refine Ext.trans ?_ (by assumption)))
  have hr1 : BoxIs W0 (w.heap.size + 1) #[.int .i64 0] 3 := ((BoxIs.at (by simp)).alloc _).upto hb1 (by simp) |>.upto hb0 (by omega)
  have hr2 : BoxIs W0 (w.heap.size + 1 + 1) #[.bool false] 4 := (BoxIs.at (by simp)).upto hb1 (by simp) |>.upto hb0 (by omega)
  have hpb : BoxIs W0 w1.heap.size #[.slice a1 p.head.length c1, .int .i64 p.frm, .int .i64 p.period, .slice a2 p.cycle.length c2] 24 := by rw [← hW0]; exact (BoxIs.at (by simp)).alloc _
  have hlb : BoxIs W0 (w1.heap.size + 1) #[.int .i64 d] 3 := by rw [← hW0]; exact BoxIs.at (by simp)
  have hz1' : W0.heap.size ≤ w1.heap.size + 2 := by omega
  have hz2 : w1.heap.size + 2 ≤ W0.heap.size := by omega
  have hpW := HP.out.ext hE
  have hin := HP.out.inn
  have hST : NI w (w.heap.size + 1) (w.heap.size + 1 + 1) (.int .i64 0) (.bool false) W0 := ⟨hE, hr1, hr2⟩
  have HST := Lib.hid hST
  clear hW0 hsz hST hr1 hr2 hc1 hf1 hb1 hb0
  have hw := HV.out.wf
  have h1 : p.frm ≤ 1125899906842624 := by have := HV.out.frm; omega
  have h2 : p.period ≤ 1125899906842624 := by have := HV.out.per; omega
  have garr : ∀ (v : Value) (l : List Int), IntsIn w 0 w.heap.size v l → l ≠ [] → ∀ b o n c', v = .slice (some ⟨b, o, none⟩) n c' → b < w.heap.size := fun v l hi hl b o n c' he => (hi.blk hl b (by rw [he]; rfl)).2
  refine wpIn_rangeX (x := some (w1.heap.size + 1)) (gf := 82) (lb := #[.pointer (some ⟨w1.heap.size, 0, none⟩), .pointer (some ⟨w1.heap.size + 1, 0, none⟩)]) rfl (enters_of Tryz.func82 (by kernel_rfl) rfl)
    (from_seq (.slice a1 p.head.length c1) (.slice a2 p.cycle.length c2) p d w1.heap.size (w1.heap.size + 1) W0 (fun k => k < w.heap.size ∨ k = w1.heap.size ∨ k = w1.heap.size + 1) hpW hw h1 h2 m0 (by omega) hpb hlb (.inr (.inl rfl)) (.inr (.inr rfl))
      (fun hl b o n c' he => .inl (garr _ _ hin.hd hl b o n c' he)) (fun hl b o n c' he => ⟨.inl (garr _ _ hin.cy hl b o n c' he), by have := garr _ _ hin.cy hl b o n c' he; omega⟩) (by omega))
    (fun h k => h.trans k) (KpB.putObj (by intro k hk; omega)) (fun y => rfl)
    (fun pre W' => pre = [] ∧ NI w (w.heap.size + 1) (w.heap.size + 1 + 1) (.int .i64 0) (.bool false) W')
    (fun c' _ W' => c' = .ret ∧ ∃ y, NextIs p.mem d y true ∧ NI w (w.heap.size + 1) (w.heap.size + 1 + 1) (.int .i64 y) (.bool true) W')
    (fun pre A C row hI hg hr => ⟨hI.1, hI.2.grow hg fun r e => by
      rcases hr r e with ⟨h, _⟩ | ⟨h, h'⟩
      · injection h with h; exact ⟨by omega, .inl ⟨by omega, by omega⟩⟩
      · exact ⟨by omega, .inr h'⟩⟩)
    (fun c' pre A C row hI hg hr => ⟨hI.1, hI.2.choose, hI.2.choose_spec.1, hI.2.choose_spec.2.grow hg fun r e => by
      rcases hr r e with ⟨h, _⟩ | ⟨h, h'⟩
      · injection h with h; exact ⟨by omega, .inl ⟨by omega, by omega⟩⟩
      · exact ⟨by omega, .inr h'⟩⟩)
    (fun pre W' hI x hx => by rw [hI.1] at hx; simp at hx) ⟨rfl, HST.out⟩
    (fun y => ⟨#[perV (Value.slice a1 p.head.length c1) (Value.slice a2 p.cycle.length c2) p.frm p.period, Value.int IntKind.i64 day, Value.pointer (some { block := w.heap.size, off := 0 }), undef, Value.pointer (some { block := w.heap.size + 1, off := 0 }), Value.pointer (some { block := w.heap.size + 1 + 1, off := 0 }), .int .i64 y, Value.agg #[Value.slice a1 p.head.length c1, Value.int IntKind.i64 p.frm, Value.int IntKind.i64 p.period, Value.slice a2 p.cycle.length c2], Value.bool true, Value.bool false, Value.bool false, Value.int IntKind.i64 day, .bool false, .bool false, Value.agg #[Value.slice a1 p.head.length c1, Value.int IntKind.i64 p.frm, Value.int IntKind.i64 p.period, Value.slice a2 p.cycle.length c2], Value.int IntKind.i64 day, Value.int IntKind.i64 d, Value.func (Fn.func 82) #[] #[Value.pointer (some { block := w1.heap.size, off := 0 }), Value.pointer (some { block := w1.heap.size + 1, off := 0 })], .int .i64 y, undef], []⟩) ?assign ?body ?done ?stop
  case assign =>
    intro l y W' K hK
    gi_wp2
    exact hK
  case body =>
    rintro l pre y W' ⟨rfl, hNI⟩ hen
    obtain ⟨hy1, hy2, hy3, hy4⟩ := EnS.last m0 hen
    have HY : Hid (NextIs p.mem d y true) := Lib.hid (.inl ⟨rfl, hy1, hy2, fun x h1 h2 h3 => by have h4 := (sel_mem (S := p.mem) (hi := y) m0 x).2 ⟨h1, h2, h3⟩; rw [← hy3] at h4; simp at h4⟩)
    have q1 := (hNI.b1.cells 0).1
    have q2 := (hNI.b1.cells 0).2
    have q3 := (hNI.b2.cells 0).1
    have q4 := (hNI.b2.cells 0).2
    have HNI := Lib.hid hNI
    clear hen hy1 hy2 hy3 hy4 hNI
    gi_wp2 
    refine ⟨((KeepsOthers.setCell W' ⟨w.heap.size + 1, 0, none⟩ (.int .i64 y)).trans (KeepsOthers.setCell _ ⟨w.heap.size + 1 + 1, 0, none⟩ (.bool true))).from _, rfl, y, HY.out, ?_, ?_, ?_⟩
    · exact (HNI.out.below.setCell (p := ⟨w.heap.size + 1, 0, none⟩) (by simp) _).setCell (p := ⟨w.heap.size + 1 + 1, 0, none⟩) (by simp; omega) _
    · exact BoxIs.setNe (heap_set_at 0 _ HNI.out.b1) _ (by omega)
    · exact heap_set_at 0 _ (HNI.out.b2.setNe _ (by omega))
  case done =>
    rintro D xs W' hD ⟨n, hn, hxs⟩ ⟨rfl, hNI⟩ hdef
    have HN : Hid (NextIs p.mem d 0 false) := Lib.hid (.inr ⟨rfl, rfl, fun x h1 h2 => by have h4 := (sel_mem (S := p.mem) (hi := n) m0 x).2 ⟨h1, hn x h2, h2⟩; rw [← hxs] at h4; simp at h4⟩)
    have q1 := (hNI.b1.cells 0).1
    have q2 := (hNI.b1.cells 0).2
    have q3 := (hNI.b2.cells 0).1
    have q4 := (hNI.b2.cells 0).2
    have HNI := Lib.hid hNI
    have HDEF := Lib.hid hdef
    clear hNI hdef hn hxs
    gi_wp2_with fail
    have hDlt := (Array.getElem?_eq_some_iff.1 HDEF.out).1
    have hM : MarksX w.heap.size [{ target := .collected D, args := #[] }] ((W'.setCell ⟨w.heap.size + 1, 0, none⟩ (.int .i64 0)).setCell ⟨w.heap.size + 1 + 1, 0, none⟩ (.bool false)) :=
      marks_one (by omega) (by rw [heap_set_ne (by omega), heap_set_ne (by omega)]; exact HDEF.out)
    refine leaves_marks (B := w.heap.size) _ _ hM fun w' hs => ?_
    have c1 : BoxIs w' (w.heap.size + 1) #[.int .i64 0] 3 := hs.cells _ _ (BoxIs.setNe (heap_set_at 0 _ HNI.out.b1) _ (by omega)) rfl
    have c2 : BoxIs w' (w.heap.size + 1 + 1) #[.bool false] 4 := hs.cells _ _ (heap_set_at 0 _ (HNI.out.b2.setNe _ (by omega))) rfl
    have q1 := (c1.cells 0).1
    have q2 := (c2.cells 0).1
    have hbw : Below w.heap.size w ((W'.setCell ⟨w.heap.size + 1, 0, none⟩ (.int .i64 0)).setCell ⟨w.heap.size + 1 + 1, 0, none⟩ (.bool false)) :=
      (HNI.out.below.setCell (p := ⟨w.heap.size + 1, 0, none⟩) (by simp) _).setCell (p := ⟨w.heap.size + 1 + 1, 0, none⟩) (by simp; omega) _
    exact ⟨.tuple #[.int .i64 0, .bool false], by simp [results, Tryz.results12, go_sem, q1, q2], 0, false, rfl, HN.out, hbw.trans hs.below⟩
  case stop =>
    rintro D c' pre W' hD _ ⟨rfl, y, hNx, hNI⟩ hdef
    have HNI := Lib.hid hNI
    have HNX := Lib.hid hNx
    have HDEF := Lib.hid hdef
    clear hNI hdef hNx
    gi_wp2_with fail
    have hM : MarksX w.heap.size [{ target := .collected D, args := #[] }] W' := marks_one (by omega) HDEF.out
    refine leaves_marks (B := w.heap.size) _ _ hM fun w' hs => ?_
    have c1 : BoxIs w' (w.heap.size + 1) #[.int .i64 y] 3 := hs.cells _ _ HNI.out.b1 rfl
    have c2 : BoxIs w' (w.heap.size + 1 + 1) #[.bool true] 4 := hs.cells _ _ HNI.out.b2 rfl
    have q1 := (c1.cells 0).1
    have q2 := (c2.cells 0).1
    exact ⟨.tuple #[.int .i64 y, .bool true], by simp [results, Tryz.results12, go_sem, q1, q2], y, true, rfl, HNX.out, HNI.out.below.trans hs.below⟩

end Go.Proofs.YtjilkhhokkncoaaGreat
