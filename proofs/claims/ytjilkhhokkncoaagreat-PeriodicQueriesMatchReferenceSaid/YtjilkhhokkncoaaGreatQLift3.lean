/- The arguments of the laws: a struct api.Periodic that reads as data is opened. -/
import Derived.Test.YtjilkhhokkncoaaGreatQK16
set_option linter.unusedVariables false
set_option linter.unusedSimpArgs false
namespace Go.Proofs.YtjilkhhokkncoaaGreat
open Go.ChangeShapes Go.WideShapes Go.ChangeAt Go.RowKit Go.Joins Kal

/-- a struct api.Periodic that reads as data; its lists are looked into where they are no longer than 300 -/
def PerArg (w : World) (v : Value) : Prop := ∃ (a1 a2 : Option Addr) (m1 m2 : Nat) (p : Per), v = perV (.slice a1 p.head.length m1) (.slice a2 p.cycle.length m2) p.frm p.period ∧ (p.head.length ≤ 300 → Ints w (.slice a1 p.head.length m1) p.head) ∧ (p.cycle.length ≤ 300 → Ints w (.slice a2 p.cycle.length m2) p.cycle) ∧ InI p.frm ∧ InI p.period ∧ p.head.length ≤ 9223372036854775807 ∧ p.cycle.length ≤ 9223372036854775807

section
variable {H : Type} {enc : TypeId × Value → H} {w : World} {base : Nat} {spare : Nat → Bool} {held : Bool}

theorem ints_of {n : Nat} {v : Value} {y : DataW H × List MemPlace} (h : DataW.trod enc Tryz.prog w base spare held n 22 [v] = some y) : ∃ (l : List Int) (a : Option Addr) (c : Nat), v = .slice a l.length c ∧ (l.length ≤ 300 → Ints w (.slice a l.length c) l) ∧ l.length ≤ 9223372036854775807 := by
  rcases open_ints Tryz.underlying22 Tryz.underlying3 (by kernel_rfl) h with ⟨hcs, _⟩ | ⟨a, len, cap, zs, hcs, hle, hl, hm, hz, _, hcell, hwz⟩
  · simp at hcs
    subst hcs
    exact ⟨[], none, 0, rfl, fun _ => Ints.nil _, by simp⟩
  · simp at hcs
    subst hcs
    have hlz : len ≤ zs.length := by rw [hz]; split <;> omega
    have hlen : (zs.take len).length = len := by rw [List.length_take]; omega
    refine ⟨zs.take len, some a, cap, by rw [hlen], fun h300 => ⟨⟨some a, cap, rfl, ?_, ?_, ?_⟩, ?_, ?_⟩, by rw [hlen]; unfold maxLen at hm; omega⟩
    · rw [hlen]; omega
    · unfold maxLen at hm; omega
    · by_cases h0 : len = 0
      · exact .inl (by rw [h0]; rfl)
      · refine .inr ?_
        obtain ⟨b, off, spot⟩ := a
        have hc := hcell 0 (by omega)
        have hspot : spot = none := by simpa [Addr.add] using World.cell?_spot hc
        subst hspot
        refine ⟨b, off, rfl, fun i hi => ?_⟩
        rw [hlen] at hi
        have h9 := hcell i (by omega)
        have e : (zs.take len).getD i 0 = zs.getD i 0 := by
          rw [List.getD_eq_getElem?_getD, List.getD_eq_getElem?_getD, List.getElem?_take_of_lt hi]
        rw [e]
        have e2 : (⟨b, off, none⟩ : Addr).add i = ⟨b, off + i, none⟩ := by
          rcases Nat.eq_zero_or_pos i with h | h
          · subst h; simp [Addr.add]
          · simp [Addr.add]; omega
        rwa [e2] at h9
    · omega
    · intro x hx
      have := bounds_i64 (hwz x (List.mem_of_mem_take hx))
      exact ⟨this.1, this.2⟩

set_option maxRecDepth 100000 in
theorem open_per {r : Reach} {b0 : Nat} {v : Value} {d : DataW H} {p : List MemPlace} (hv : Value.okWide Tryz.prog w r b0 24 v) (h : DataW.Trod enc Tryz.prog w base spare held 24 v d p) : PerArg w v := by
  obtain ⟨v0, v1, v2, v3, y0, y1, y2, y3, n, rfl, _, _, h0, h1, h2, h3⟩ := open_agg4 Tryz.underlying24 (by kernel_rfl) (by kernel_rfl) hv h
  obtain ⟨l0, a0, c0, rfl, b0, n0⟩ := ints_of h0
  obtain ⟨l3, a3, c3, rfl, b3, n3⟩ := ints_of h3
  obtain ⟨f, rfl, wf⟩ := int_of Tryz.underlying3 h1
  obtain ⟨t, rfl, wt⟩ := int_of Tryz.underlying3 h2
  have bf := bounds_i64 wf
  have bt := bounds_i64 wt
  exact ⟨a0, a3, c0, c3, ⟨l0, f, t, l3⟩, rfl, b0, b3, ⟨bf.1, bf.2⟩, ⟨bt.1, bt.2⟩, n0, n3⟩
end

end Go.Proofs.YtjilkhhokkncoaaGreat
