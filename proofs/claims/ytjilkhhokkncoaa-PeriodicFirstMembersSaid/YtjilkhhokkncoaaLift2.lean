/- The arguments of the laws: arrays of integers are opened. -/
import Derived.Test.YtjilkhhokkncoaaK16
set_option linter.unusedVariables false
set_option linter.unusedSimpArgs false
namespace Go.Proofs.Ytjilkhhokkncoaa
open Go.ChangeShapes Go.WideShapes Go.ChangeAt Go.RowKit Go.Joins Kal

def numV (v : Value) : Int := match v with | .int _ x => x | _ => 0

section
variable {H : Type} {enc : TypeId × Value → H} {w : World} {base : Nat} {spare : Nat → Bool} {held : Bool}

set_option maxRecDepth 100000 in
theorem open_arr {r : Reach} {b0 n : Nat} {t e : TypeId} {k : IntKind} {v : Value} {d : DataW H} {p : List MemPlace} (ht : Try.prog.underlying t = some (.array n e)) (he : Try.prog.underlying e = some (.int k)) (hce : Try.prog.cellsOf e = 1) (hct : Try.prog.cellsOf t = n)
    (hv : Value.okWide Try.prog w r b0 t v) (h : DataW.Trod enc Try.prog w base spare held t v d p) : ∃ ns : List Int, ns.length = n ∧ v = .agg (ns.map (Value.int k)).toArray ∧ ∀ x ∈ ns, (Lit.int k x).wf = true := by
  have hv2 : ∃ cs : Array Value, v = .agg cs ∧ cs.size = Try.prog.cellsOf t := by
    unfold Value.okWide at hv
    rw [ht] at hv
    obtain ⟨cs, h1, h2, _⟩ := hv
    exact ⟨cs, h1, h2⟩
  obtain ⟨cs, rfl, hsz⟩ := hv2
  obtain ⟨fuel, hf⟩ := h
  obtain ⟨xs, m, _, _, hl, hxl, hi⟩ := DataW.trod_array ht hf
  have hcs : ∀ i, i < n → ∃ z, cs.toList[i]? = some (.int k z) ∧ (Lit.int k z).wf = true := by
    intro i hin
    have h1 := hi i hin
    rw [hce, Nat.mul_one, List.getElem?_eq_getElem (by omega)] at h1
    obtain ⟨z, h2, _, h3⟩ := DataW.trod_int he h1
    refine ⟨z, ?_, h3⟩
    have h4 : (List.take 1 (List.drop i cs.toList))[0]? = some (.int k z) := by
      have h5 : List.take 1 (List.drop i cs.toList) = [.int k z] := h2
      rw [h5]; rfl
    rw [List.getElem?_take_of_lt (by omega), List.getElem?_drop] at h4
    simpa using h4
  refine ⟨cs.toList.map numV, by simp [hsz, hct], ?_, ?_⟩
  · congr 1
    apply Array.ext
    · simp
    · intro i h1 h2
      obtain ⟨z, hz, _⟩ := hcs i (by omega)
      rw [List.getElem?_eq_getElem (by simpa using h1)] at hz
      have hz' := Option.some.inj hz
      simp at hz'
      simp [hz', numV]
  · intro x hx
    obtain ⟨y, hy, rfl⟩ := List.mem_map.1 hx
    obtain ⟨i, hi2, rfl⟩ := List.getElem_of_mem hy
    obtain ⟨z, hz, hw⟩ := hcs i (by simp at hi2; omega)
    rw [List.getElem?_eq_getElem hi2] at hz
    have hz' := Option.some.inj hz
    rw [hz']; exact hw

theorem list2 {l : List Int} (h : l.length = 2) : ∃ a b, l = [a, b] := by
  match l, h with
  | [a, b], _ => exact ⟨a, b, rfl⟩
theorem list4 {l : List Int} (h : l.length = 4) : ∃ a b c d, l = [a, b, c, d] := by
  match l, h with
  | [a, b, c, d], _ => exact ⟨a, b, c, d, rfl⟩
end

end Go.Proofs.Ytjilkhhokkncoaa
