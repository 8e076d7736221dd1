/- Contracts: R.Made; small sets and the operations over them. -/
import Derived.Test.YtjilkhhokkncoaaGreatQK14
import Derived.Test.YtjilkhhokkncoaaGreatQK1
import Derived.Test.YtjilkhhokkncoaaGreatQK3
set_option linter.unusedVariables false
set_option linter.unusedSimpArgs false

/- Walks: Made (package kalendsref04). Under way. -/
namespace Go.Proofs.YtjilkhhokkncoaaGreat
open Go.RowKit Go.Maps Kal

/-- the slice v reads as a list of bytes -/
structure Bytes (w : World) (v : Value) (l : List Int) : Prop where
  is : ∃ a c, v = .slice a l.length c ∧ (l = [] ∨ ∃ b o, a = some ⟨b, o, none⟩ ∧ ∀ i, i < l.length → w.cell? ⟨b, o + i, none⟩ = some (.int .u8 (l.getD i 0)))
  len : l.length ≤ 9223372036854775807
  rng : ∀ x ∈ l, 0 ≤ x ∧ x ≤ 255

theorem Bytes.ext {w W : World} {v : Value} {l : List Int} (h : Bytes w v l) (hb : Below w.heap.size w W) : Bytes W v l := by
  obtain ⟨⟨a, c, rfl, h3⟩, h4, h5⟩ := h
  refine ⟨⟨a, c, rfl, h3.imp id ?_⟩, h4, h5⟩
  rintro ⟨b, o, rfl, hc⟩
  exact ⟨b, o, rfl, fun i hi => Ext.cell hb (hc i hi)⟩

end Go.Proofs.YtjilkhhokkncoaaGreat

/- Plain mathematics of the law PeriodicResidues: found in a window day by day; listed at a place. -/
namespace Go.Proofs.YtjilkhhokkncoaaGreat
open Kal

end Go.Proofs.YtjilkhhokkncoaaGreat

/- Small sets: what the sets that R.Made builds and their combinations keep (bounds of From and Period); the operations' contracts over them. -/
namespace Go.Proofs.YtjilkhhokkncoaaGreat
open Go.RowKit Go.Maps Kal

/-- From at most F, period at most B -/
structure Sm (F B : Int) (p : Per) : Prop where
  wf : p.WF
  frm : p.frm ≤ F
  per : p.period ≤ B

theorem Sm.mono {F B F' B' : Int} {p : Per} (h : Sm F B p) (h1 : F ≤ F') (h2 : B ≤ B') : Sm F' B' p := ⟨h.wf, by have := h.frm; omega, by have := h.per; omega⟩

theorem Sm.valid {F B : Int} {p : Per} (h : Sm F B p) (hb : F + B ≤ 1048576) : Valid p := by
  have h0 := h.wf.frm
  have h1 := h.wf.per
  have h2 := h.frm
  have h5 := h.per
  have h3 := h.wf.head.length_le h0
  have h4 := h.wf.cyc.length_le (show (0 : Int) ≤ p.period by omega)
  exact ⟨h.wf, by omega, by omega, by omega⟩

/-- a set of days that repeats reads as a valid struct -/
theorem exists_per {S : Int → Prop} {f d : Int} (hf : 0 ≤ f) (hd : 1 ≤ d) (hS0 : ∀ n, S n → 0 ≤ n) (hp : PFrom S f d) : ∃ p : Per, p.WF ∧ p.frm = f ∧ p.period = d ∧ ∀ n, p.mem n ↔ S n := by
  have h := per_of_list (S := S) (f := f) (d := d) (hl := sel S 0 f) (cl := sel (fun n => S (f + n)) 0 d) hf hd hS0 hp (sel_rise (Int.le_refl _)) (sel_rise (Int.le_refl _))
    (fun n h1 h2 => by rw [sel_mem (Int.le_refl _)]; exact ⟨fun h => h.2.2, fun h => ⟨h1, h2, h⟩⟩) (fun n h1 h2 => by rw [sel_mem (Int.le_refl _)]; exact ⟨fun h => h.2.2, fun h => ⟨h1, h2, h⟩⟩)
  exact ⟨_, h.1, rfl, rfl, h.2⟩

theorem canon_sm {S : Int → Prop} {f d : Int} (hf : 0 ≤ f) (hd : 1 ≤ d) (hS0 : ∀ n, S n → 0 ≤ n) (hp : PFrom S f d) : ∃ q, IsCanon q S ∧ Sm f d q := by
  obtain ⟨p, hw, h1, h2, hm⟩ := exists_per hf hd hS0 hp
  obtain ⟨q, hq⟩ := exists_canon hw
  have hq' : IsCanon q S := hq.congr hm
  exact ⟨q, hq', hq'.wf, hq'.frm_le hf hd hp, hq'.minp d hd hp.ev⟩

theorem Sm.canon {F B : Int} {p : Per} (h : Sm F B p) : ∃ q, IsCanon q p.mem ∧ Sm F B q := by
  obtain ⟨q, hq, hs⟩ := canon_sm (S := p.mem) h.wf.frm h.wf.per (fun n hn => hn.1) h.wf.pfrom
  exact ⟨q, hq, hs.mono h.frm h.per⟩

theorem Sets.tl {W : World} {L : List (Nat × Per)} {x : Nat × Per} (h : Sets W (x :: L)) : Sets W L := fun y hy => h y (List.mem_cons_of_mem _ hy)

end Go.Proofs.YtjilkhhokkncoaaGreat
