/- Walks: shape of all sets, Canon, Cut (package kalendsref04). -/
import Derived.Test.YtjilkhhokkncoaaPWalkRwb
set_option linter.unusedVariables false
set_option linter.unusedSimpArgs false
namespace Go.Proofs.Ytjilkhhokkncoaa
open Go.RowKit Go.Maps Kal

theorem Rshape_any (h c : Value) (p q : Per) (w : World) (hp : PerIs w h c p) (hw : p.WF) (h1 : p.frm ≤ 1125899906842624) (h2 : p.period ≤ 1125899906842624) (hq : IsCanon q p.mem) :
    Calls Try.prog 78 #[perV h c p.frm p.period] w (PerRes q w) := by
  have key : Calls Try.prog 78 #[perV h c p.frm p.period] w (CanonRes p.mem w) := by
    by_cases hc : p.cycle = []
    · exact Rshape_fin h c p w hp hw h1 hc
    · exact Rshape_inf h c p w hp hw h1 h2 hc
  refine key.mono fun e w' hr => ?_
  obtain ⟨h', c', q', rfl, hq', hp', hb⟩ := hr
  obtain rfl := hq'.unique hq
  exact ⟨h', c', rfl, hp', hb⟩

theorem later_valid {p : Per} (hv : Valid p) {a : Int} (h0 : 0 ≤ a) (h1 : a ≤ 1099511627776) : Valid (laterP p a) := by
  have h2 := hv.frm; have h3 := hv.per; have h4 := hv.len
  refine ⟨(laterP_ok hv.wf h0).1, ?_, h3, ?_⟩
  · show max p.frm a ≤ _; omega
  · show (p.head.drop _).length + (isort (cycL p _)).length ≤ _
    rw [isort_length]; simp only [cycL, List.length_map, List.length_drop]
    have h9 := List.length_drop (i := 0) (l := p.head)
    omega

set_option maxRecDepth 100000 in
set_option maxHeartbeats 1000000 in
theorem RCanon_ok (h c : Value) (p q : Per) (w : World) (hp : PerIs w h c p) (hv : Valid p) (hq : IsCanon q p.mem) :
    Calls Try.prog 45 #[perV h c p.frm p.period] w (PerOk q w) := by
  have hl : ∀ W, Below w.heap.size w W → PerIs W h c p := fun W hb => hp.ext hb
  have hvb := (validB_iff p).2 hv
  have HVB := Lib.hid hvb
  have HI1 : Hid (InI p.frm) := by have := hv.frm; have := hv.wf.frm; exact Lib.hid ⟨by omega, by omega⟩
  have HI2 : Hid (InI p.period) := by have := hv.per; have := hv.wf.per; exact Lib.hid ⟨by omega, by omega⟩
  have HV := Lib.hid hv
  have HF : Hid (p.frm ≤ 1125899906842624) := by have := hv.frm; exact Lib.hid (by omega)
  have HP : Hid (p.period ≤ 1125899906842624) := by have := hv.per; exact Lib.hid (by omega)
  have HQ := Lib.hid hq
  clear hv hp hq hvb
  go_enter Try.func45, Try.ntmps45
  go_wp2_with (first | (go_at_call 44; refine (RValid_any h c p _ (hl _ (by (repeat' (with_reducible first | assumption | exact Ext.refl _ | refine Ext.alloc ?_ _ | refine Ext.drew ?_ | refine Ext.drewN ?_ _ | (refine Ext.setCell ?_ (by first | (simp; done) | (simp; omega) | omega) _) | refine Ext.trans ?_ (by assumption))))) HI1.out HI2.out).mono ?_; rintro e w1 ⟨he, hb1⟩; rw [HVB.out] at he; subst he; obtain ⟨hc1, hf1⟩ := bcell hb1; have hz1 : w.heap.size + 1 < w1.heap.size := (by have := hb1.size; simp at this; omega)) | (go_at_call 78; refine (Rshape_any h c p q _ (hl _ (by (repeat' (with_reducible first | assumption | exact Ext.refl _ | refine Ext.alloc ?_ _ | refine Ext.drew ?_ | refine Ext.drewN ?_ _ | (refine Ext.setCell ?_ (by first | (simp; done) | (simp; omega) | omega) _) | refine Ext.trans ?_ (by assumption))))) HV.out.wf HF.out HP.out HQ.out).mono ?_; rintro e w2 ⟨h', c', rfl, hp2, hb2⟩; obtain ⟨a1, c1, a2, c2, rfl, rfl⟩ := hp2.form; obtain ⟨hc2, hf2⟩ := bcell hb2; have HP2 := Lib.hid hp2; clear hp2))
  exact bodyPost_ret (v := .tuple #[perV (.slice a1 q.head.length c1) (.slice a2 q.cycle.length c2) q.frm q.period, .int .i64 0]) (by simp [results, Try.results45, go_sem, *]) rfl ⟨_, _, rfl, (HP2.out.above (by (repeat' (with_reducible first | exact Above.refl _ _ | refine Above.alloc ?_ _ | refine Above.drew ?_ | refine Above.drewN ?_ _ | refine Above.setCell ?_ (by first | (simp; done) | (simp; omega) | omega) _)))).mono (by have := hb1.size; simp at this; omega), by (repeat' (with_reducible first | assumption | exact Ext.refl _ | refine Ext.alloc ?_ _ | refine Ext.drew ?_ | refine Ext.drewN ?_ _ | (refine Ext.setCell ?_ (by first | (simp; done) | (simp; omega) | omega) _) | refine Ext.trans ?_ (by assumption)))⟩

/-- what Cut answers -/
def CutIs (p : Per) (a b k : Int) (q : Per) : Prop := (okCut p a b = false ∧ k = 1 ∧ q = ⟨[], 0, 0, []⟩) ∨ (okCut p a b = true ∧ k = 0 ∧ IsCanon q (fun n => p.mem n ∧ a ≤ n ∧ (b = -1 ∨ n < b)))

theorem CutIs.unique {p : Per} {a b k k' : Int} {q q' : Per} (h : CutIs p a b k q) (h' : CutIs p a b k' q') : k = k' ∧ q = q' := by
  rcases h with ⟨h1, rfl, rfl⟩ | ⟨h1, rfl, h3⟩ <;> rcases h' with ⟨g1, rfl, rfl⟩ | ⟨g1, rfl, g3⟩
  · exact ⟨rfl, rfl⟩
  · rw [h1] at g1; cases g1
  · rw [h1] at g1; cases g1
  · exact ⟨rfl, h3.unique g3⟩

def CutRes (p : Per) (a b : Int) (w : World) (e : Ending) (w' : World) : Prop :=
  ∃ (h' c' : Value) (q : Per) (k : Int), CutIs p a b k q ∧ e = .returned (.tuple #[perV h' c' q.frm q.period, .int .i64 k]) ∧ PerOwn w' w.heap.size h' c' q ∧ Below w.heap.size w w'

theorem CutRes.bad {p : Per} {a b : Int} {w : World} {e : Ending} {w' : World} (h : okCut p a b = false) (hr : PerErr 1 w e w') : CutRes p a b w e w' :=
  ⟨_, _, ⟨[], 0, 0, []⟩, 1, .inl ⟨h, rfl, rfl⟩, hr.1, ⟨OwnI.nil _ _, OwnI.nil _ _⟩, hr.2⟩
theorem CutRes.ok {p q : Per} {a b : Int} {w : World} {e : Ending} {w' : World} (h : okCut p a b = true) (hq : IsCanon q (fun n => p.mem n ∧ a ≤ n ∧ (b = -1 ∨ n < b))) (hr : PerOk q w e w') : CutRes p a b w e w' := by
  obtain ⟨h', c', h1, h2, h3⟩ := hr
  exact ⟨h', c', q, 0, .inr ⟨h, rfl, hq⟩, h1, h2, h3⟩

theorem okCut_iff {p : Per} {a b : Int} (hv : Valid p) : okCut p a b = true ↔ 0 ≤ a ∧ a ≤ 1099511627776 ∧ -1 ≤ b ∧ b ≤ 1099511627776 := by
  unfold okCut; rw [(validB_iff p).2 hv]; simp; omega

theorem win_m {p : Per} {a b : Int} (h0 : 0 ≤ a) : sel p.mem a b = sel p.mem a (max a b) := by
  refine (sel_rise h0).ext (sel_rise h0) fun x => ?_
  rw [sel_mem h0, sel_mem h0]
  exact ⟨fun ⟨a, b, c⟩ => ⟨a, by omega, c⟩, fun ⟨a, b, c⟩ => ⟨a, by omega, c⟩⟩

/-- the canonical form of a window -/
theorem win_canon {p : Per} {a b : Int} (h0 : 0 ≤ a) (hb : 0 ≤ b) : IsCanon ⟨sel p.mem a b, if (sel p.mem a b).length = 0 then 0 else (sel p.mem a b).getD ((sel p.mem a b).length - 1) 0 + 1, 1, []⟩ (fun n => p.mem n ∧ a ≤ n ∧ (b = -1 ∨ n < b)) := by
  have hk := win_ok (p := p) h0 (show a ≤ max a b by omega)
  have := canon_fin hk.1 rfl
  rw [win_m h0]
  refine this.congr fun n => ?_
  rw [hk.2]
  exact ⟨fun ⟨x, y, z⟩ => ⟨x, y, by omega⟩, fun ⟨x, y, z⟩ => ⟨x, y, by omega⟩⟩

theorem Cut_any (h c : Value) (p : Per) (a b : Int) (w : World) (hp : PerIs w h c p) (hv : Valid p) (hcn : 0 ≤ a → a ≤ 1099511627776 → a ≤ b → belowI p b - belowI p a ≤ 1048576) :
    Calls Try.prog 15 #[perV h c p.frm p.period, .int .i64 a, .int .i64 b] w (CutRes p a b w) := by
  cases hok : okCut p a b with
  | false => exact (Cut_bad h c p a b w hp hok).mono fun e w' hr => .bad hok hr
  | true =>
    obtain ⟨h0, h1, h2, h3⟩ := (okCut_iff hv).1 hok
    by_cases hb : b = -1
    · subst hb
      obtain ⟨q, hq⟩ := exists_canon (laterP_ok hv.wf h0).1
      have hq1 : IsCanon q (fun n => p.mem n ∧ a ≤ n) := hq.congr (laterP_ok hv.wf h0).2
      exact (Cut_tail h c p q a w hp hv h0 h1 hq1).mono fun e w' hr => .ok hok (hq1.congr fun n => ⟨fun ⟨x, y⟩ => ⟨x, y, .inl rfl⟩, fun ⟨x, y, _⟩ => ⟨x, y⟩⟩) hr
    · have hq := win_canon (p := p) (b := b) h0 (by omega)
      by_cases hab : a < b
      · exact (Cut_win h c p _ a b w hp hv h0 hab h3 (hcn h0 h1 (by omega)) (hq.congr fun n => ⟨fun ⟨x, y, z⟩ => ⟨x, y, by omega⟩, fun ⟨x, y, z⟩ => ⟨x, y, .inr z⟩⟩)).mono fun e w' hr => .ok hok hq hr
      · refine (Cut_none h c p a b w hp hv h0 h1 (by omega) (by omega)).mono fun e w' hr => .ok hok ?_ hr
        have hn : sel p.mem a b = [] := sel_nil h0 (by omega)
        rw [hn] at hq; exact hq

set_option maxRecDepth 100000 in
set_option maxHeartbeats 1000000 in
theorem RCut_bad (h c : Value) (p : Per) (a b : Int) (w : World) (hp : PerIs w h c p) (hf : InI p.frm) (ht : InI p.period) (hbad : okCut p a b = false) :
    Calls Try.prog 16 #[perV h c p.frm p.period, .int .i64 a, .int .i64 b] w (PerErr 1 w) := by
  have hl : ∀ W, Below w.heap.size w W → PerIs W h c p := fun W hb => hp.ext hb
  have HB := Lib.hid hbad
  have HI1 := Lib.hid hf
  have HI2 := Lib.hid ht
  clear hp hbad hf ht
  go_enter Try.func16, Try.ntmps16
  go_wp2_with (go_at_call 44; refine (RValid_any h c p _ (hl _ (by (repeat' (with_reducible first | assumption | exact Ext.refl _ | refine Ext.alloc ?_ _ | refine Ext.drew ?_ | refine Ext.drewN ?_ _ | (refine Ext.setCell ?_ (by first | (simp; done) | (simp; omega) | omega) _) | refine Ext.trans ?_ (by assumption))))) HI1.out HI2.out).mono ?_; rintro e w1 ⟨rfl, hb1⟩; obtain ⟨hc1, hf1⟩ := bcell hb1; (try simp only [World.size_alloc, World.size_drew, size_drewN, World.size_setCell] at hc1 hf1); have hz1 := hb1.size; (try simp only [World.size_alloc, World.size_drew, size_drewN, World.size_setCell] at hz1); have hz1' : w.heap.size + 1 < w1.heap.size := by omega)
  all_goals first
    | (exfalso; have hB := HB.out; unfold okCut at hB; simp only [Bool.and_eq_false_iff, decide_eq_false_iff_not] at hB; rcases hB with ((((hB | hB) | hB) | hB) | hB) <;> first | omega | (simp_all; done))
    | (refine bodyPost_ret (v := .tuple #[perV (.slice none 0 0) (.slice none 0 0) 0 0, .int .i64 1]) ?_ rfl ⟨rfl, by (repeat' (with_reducible first | assumption | exact Ext.refl _ | refine Ext.alloc ?_ _ | refine Ext.drew ?_ | refine Ext.drewN ?_ _ | (refine Ext.setCell ?_ (by first | (simp; done) | (simp; omega) | omega) _) | refine Ext.trans ?_ (by assumption)))⟩; simp [results, Try.results16, go_sem, *]; done)

set_option maxRecDepth 100000 in
set_option maxHeartbeats 1000000 in
theorem RCut_tail (h c : Value) (p q : Per) (a : Int) (w : World) (hp : PerIs w h c p) (hv : Valid p) (h0 : 0 ≤ a) (h1 : a ≤ 1099511627776) (hq : IsCanon q (fun n => p.mem n ∧ a ≤ n)) :
    Calls Try.prog 16 #[perV h c p.frm p.period, .int .i64 a, .int .i64 (-1)] w (PerOk q w) := by
  have hl : ∀ W, Below w.heap.size w W → PerIs W h c p := fun W hb => hp.ext hb
  have HVB := Lib.hid ((validB_iff p).2 hv)
  have f1 : p.frm ≤ 1125899906842624 := by have := hv.frm; omega
  have f2 : p.period ≤ 1125899906842624 := by have := hv.per; omega
  have HI1 : Hid (InI p.frm) := by have := hv.frm; have := hv.wf.frm; exact Lib.hid ⟨by omega, by omega⟩
  have HI2 : Hid (InI p.period) := by have := hv.per; have := hv.wf.per; exact Lib.hid ⟨by omega, by omega⟩
  have HV := Lib.hid hv
  have HQ : Hid (IsCanon q (laterP p a).mem) := Lib.hid (hq.congr fun n => ((laterP_ok hv.wf h0).2 n).symm)
  have g1 : p.frm ≤ 2199023255552 := by have := hv.frm; omega
  have g2 : p.period ≤ 1099511627776 := hv.per
  clear hp hq hv
  go_enter Try.func16, Try.ntmps16
  go_wp2_with (first | (go_at_call 44; refine (RValid_any h c p _ (hl _ (by (repeat' (with_reducible first | assumption | exact Ext.refl _ | refine Ext.alloc ?_ _ | refine Ext.drew ?_ | refine Ext.drewN ?_ _ | (refine Ext.setCell ?_ (by first | (simp; done) | (simp; omega) | omega) _) | refine Ext.trans ?_ (by assumption))))) HI1.out HI2.out).mono ?_; rintro e w1 ⟨he, hb1⟩; rw [HVB.out] at he; subst he; obtain ⟨hc1, hf1⟩ := bcell hb1; (try simp only [World.size_alloc, World.size_drew, size_drewN, World.size_setCell] at hc1 hf1); have hz1 := hb1.size; (try simp only [World.size_alloc, World.size_drew, size_drewN, World.size_setCell] at hz1); have hz1' : w.heap.size + 1 < w1.heap.size := by omega) | (go_at_call 46; refine (Rlater_any h c p a _ (hl _ (by (repeat' (with_reducible first | assumption | exact Ext.refl _ | refine Ext.alloc ?_ _ | refine Ext.drew ?_ | refine Ext.drewN ?_ _ | (refine Ext.setCell ?_ (by first | (simp; done) | (simp; omega) | omega) _) | refine Ext.trans ?_ (by assumption))))) HV.out.wf g1 g2 h0 (by omega)).mono ?_; rintro e w2 ⟨x1, x2, rfl, ho2, hb2⟩; obtain ⟨hc2, hf2⟩ := bcell hb2; (try simp only [World.size_alloc, World.size_drew, size_drewN, World.size_setCell] at hc2 hf2); have hz2 := hb2.size; (try simp only [World.size_alloc, World.size_drew, size_drewN, World.size_setCell] at hz2); have hz2' : w.heap.size + 1 < w2.heap.size := by omega) | (go_at_call 45; refine (RCanon_ok _ _ (laterP p a) q _ (ho2.is.ext (by (repeat' (with_reducible first | assumption | exact Ext.refl _ | refine Ext.alloc ?_ _ | refine Ext.drew ?_ | refine Ext.drewN ?_ _ | (refine Ext.setCell ?_ (by first | (simp; done) | (simp; omega) | omega) _) | refine Ext.trans ?_ (by assumption))))) (later_valid HV.out h0 h1) HQ.out).mono ?_; rintro e w3 ⟨y1, y2, rfl, ho3, hb3⟩; obtain ⟨a1, n1, a2, n2, rfl, rfl⟩ := ho3.form; obtain ⟨hc3, hf3⟩ := bcell hb3; (try simp only [World.size_alloc, World.size_drew, size_drewN, World.size_setCell] at hc3 hf3); have hi3 := ho3.inn))
  exact bodyPost_ret (v := .tuple #[perV (.slice a1 q.head.length n1) (.slice a2 q.cycle.length n2) q.frm q.period, .int .i64 0]) (by simp [results, Try.results16, go_sem, *]) rfl ⟨_, _, rfl, (ho3.above (by (repeat' (with_reducible first | exact Above.refl _ _ | refine Above.alloc ?_ _ | refine Above.drew ?_ | refine Above.drewN ?_ _ | refine Above.setCell ?_ (by first | (simp; done) | (simp; omega) | omega) _)))).mono (by omega), by (repeat' (with_reducible first | assumption | exact Ext.refl _ | refine Ext.alloc ?_ _ | refine Ext.drew ?_ | refine Ext.drewN ?_ _ | (refine Ext.setCell ?_ (by first | (simp; done) | (simp; omega) | omega) _) | refine Ext.trans ?_ (by assumption)))⟩

set_option maxRecDepth 100000 in
set_option maxHeartbeats 2000000 in
theorem RCut_win (h c : Value) (p : Per) (a b M : Int) (w : World) (hp : PerIs w h c p) (hv : Valid p) (h0 : 0 ≤ a) (h1 : a ≤ 1099511627776) (hb0 : 0 ≤ b) (h3 : b ≤ 1099511627776) (hM : M = max a b) (hcn : belowI p M - belowI p a ≤ 1048576) (l : List Int) (hl9 : l = sel p.mem a b) (q : Per) (hq : q = ⟨l, if l.length = 0 then 0 else l.getD (l.length - 1) 0 + 1, 1, []⟩) :
    Calls Try.prog 16 #[perV h c p.frm p.period, .int .i64 a, .int .i64 b] w (PerOk q w) := by
  have hl : ∀ W, Below w.heap.size w W → PerIs W h c p := fun W hb => hp.ext hb
  have HVB := Lib.hid ((validB_iff p).2 hv)
  have f1 : p.frm ≤ 1125899906842624 := by have := hv.frm; omega
  have f2 : p.period ≤ 1125899906842624 := by have := hv.per; omega
  have HI1 : Hid (InI p.frm) := by have := hv.frm; have := hv.wf.frm; exact Lib.hid ⟨by omega, by omega⟩
  have HI2 : Hid (InI p.period) := by have := hv.per; have := hv.wf.per; exact Lib.hid ⟨by omega, by omega⟩
  have HV := Lib.hid hv
  have HQ9 := Lib.hid hq
  have HL9 := Lib.hid hl9
  have hM1 : a ≤ M ∧ b ≤ M ∧ M ≤ 1099511627776 := by omega
  have HM := Lib.hid hM
  have ba := belowI_bound HV.out.wf h0
  have bb := belowI_bound HV.out.wf (show 0 ≤ M by omega)
  have hw9 : IntKind.i64.wrap (belowI p M - belowI p a) = belowI p M - belowI p a := wrapI ⟨by omega, by omega⟩
  have hbneg : ¬ b < -1 := by omega
  have hb00 : ¬ b < 0 := by omega
  clear hp hv hM hq hl9
  go_enter Try.func16, Try.ntmps16
  go_wp2_with (go_at_call 44; refine (RValid_any h c p _ (hl _ (by (repeat' (with_reducible first | assumption | exact Ext.refl _ | refine Ext.alloc ?_ _ | refine Ext.drew ?_ | refine Ext.drewN ?_ _ | (refine Ext.setCell ?_ (by first | (simp; done) | (simp; omega) | omega) _) | refine Ext.trans ?_ (by assumption))))) HI1.out HI2.out).mono ?_; rintro e w1 ⟨he, hb1⟩; rw [HVB.out] at he; subst he; obtain ⟨hc1, hf1⟩ := bcell hb1; (try simp only [World.size_alloc, World.size_drew, size_drewN, World.size_setCell] at hc1 hf1); have hz1 := hb1.size; (try simp only [World.size_alloc, World.size_drew, size_drewN, World.size_setCell] at hz1); have hz1' : w.heap.size + 1 < w1.heap.size := by omega)
  have hcA : w1.cell? ⟨w.heap.size, 0, none⟩ = some h ∧ w1.cell? ⟨w.heap.size, 1, none⟩ = some (.int .i64 p.frm) ∧ w1.cell? ⟨w.heap.size, 2, none⟩ = some (.int .i64 p.period) ∧ w1.cell? ⟨w.heap.size, 3, none⟩ = some c := by
    refine ⟨?_, ?_, ?_, ?_⟩ <;> (rw [hc1 _ _ (by omega)]; simp)
  have hrb : BoxIs w1 (w.heap.size + 1) #[.slice none 0 0, .int .i64 0, .int .i64 0, .slice none 0 0] 28 := (BoxIs.at (by simp)).upto hb1 (by simp)
  have hxb : BoxIs w1 w.heap.size #[h, .int .i64 p.frm, .int .i64 p.period, c] 28 := (BoxIs.alloc (BoxIs.at rfl) _).upto hb1 (by simp; omega)
  have hW1 : Below w.heap.size w w1 := by (repeat' (with_reducible first | assumption | exact Ext.refl _ | refine Ext.alloc ?_ _ | refine Ext.drew ?_ | refine Ext.drewN ?_ _ | (refine Ext.setCell ?_ (by first | (simp; done) | (simp; omega) | omega) _) | refine Ext.trans ?_ (by assumption)))
  obtain ⟨hA0, hA1, hA2, hA3⟩ := hcA
  clear hc1 hf1 hb1
  refine wp_region_facts (w0 := w1) [0, 1, 2, 3, 4, 5, 6, 7, 8, 9] [] (fun v => ⟨#[perV h c p.frm p.period, Value.int IntKind.i64 a, Value.int IntKind.i64 b, Value.pointer (some { block := w.heap.size, off := 0 }), undef, undef, Value.pointer (some { block := w.heap.size + 1, off := 0 }), Value.int IntKind.i64 0, undef, Value.agg #[h, Value.int IntKind.i64 p.frm, Value.int IntKind.i64 p.period, c], Value.bool true, Value.bool false, Value.bool false, Value.int IntKind.i64 a, Value.bool (decide (a < 0)), Value.bool (decide (a < 0)), Value.bool (decide (a < 0)), Value.int IntKind.i64 a, Value.bool (decide (1099511627776 < a)), Value.bool (decide (a < 0) || decide (1099511627776 < a)), Value.bool (decide (a < 0) || decide (1099511627776 < a)), Value.int IntKind.i64 b, Value.bool (decide (b < -1)), Value.bool (decide (a < 0) || decide (1099511627776 < a) || decide (b < -1)), Value.bool (decide (a < 0) || decide (1099511627776 < a) || decide (b < -1)), Value.int IntKind.i64 b, Value.bool (decide (1099511627776 < b)), Value.bool (decide (a < 0) || decide (1099511627776 < a) || decide (b < -1) || decide (1099511627776 < b)), undef, Value.int IntKind.i64 b, Value.bool (decide (b < 0)), undef, undef, undef, undef, undef, undef, v 0, v 1, v 2, v 3, v 4, v 5, v 6, v 7, v 8, v 9, undef, undef, undef, undef, undef, undef, undef, undef, undef, undef, undef, undef, undef, undef, undef, undef, undef, undef, undef, undef, undef], []⟩) (fun _ => undef)
    (fun i v lo hi W => match i with
      | 0 => v 0 = perV h c p.frm p.period
      | 1 => v 1 = .int .i64 a
      | 2 => v 2 = .int .i64 b
      | 3 => v 3 = .int .i64 M
      | 4 => v 4 = .int .i64 (belowI p M)
      | 5 => v 5 = perV h c p.frm p.period
      | 6 => v 6 = .int .i64 a
      | 7 => v 7 = .int .i64 (belowI p a)
      | 8 => v 8 = .int .i64 (belowI p M - belowI p a)
      | 9 => v 9 = .bool false
      | _ => True)
    (fun W => Below w.heap.size w W ∧ W.cell? ⟨w.heap.size, 0, none⟩ = some h ∧ W.cell? ⟨w.heap.size, 1, none⟩ = some (.int .i64 p.frm) ∧ W.cell? ⟨w.heap.size, 2, none⟩ = some (.int .i64 p.period) ∧ W.cell? ⟨w.heap.size, 3, none⟩ = some c) rfl (by kernel_rfl) (by decide) rfl ?stab ?loc (fun W hb => ⟨by (repeat' (with_reducible first | assumption | exact Ext.refl _ | refine Ext.alloc ?_ _ | refine Ext.drew ?_ | refine Ext.drewN ?_ _ | (refine Ext.setCell ?_ (by first | (simp; done) | (simp; omega) | omega) _) | refine Ext.trans ?_ (by assumption))), cell_upto hA0 hb, cell_upto hA1 hb, cell_upto hA2 hb, cell_upto hA3 hb⟩) ?steps ?fin
  case stab =>
    rintro (_ | _ | _ | _ | _ | _ | _ | _ | _ | _ | i) v lo hi W W' h hb
    · exact h
    · exact h
    · exact h
    · exact h
    · exact h
    · exact h
    · exact h
    · exact h
    · exact h
    · exact h
    · trivial
  case loc =>
    rintro (_ | _ | _ | _ | _ | _ | _ | _ | _ | _ | i) v v' lo lo' hi hi' W hag h
    · exact (hag 0 (.inl rfl)).1 ▸ h
    · exact (hag 1 (.inl rfl)).1 ▸ h
    · exact (hag 2 (.inl rfl)).1 ▸ h
    · exact (hag 3 (.inl rfl)).1 ▸ h
    · exact (hag 4 (.inl rfl)).1 ▸ h
    · exact (hag 5 (.inl rfl)).1 ▸ h
    · exact (hag 6 (.inl rfl)).1 ▸ h
    · exact (hag 7 (.inl rfl)).1 ▸ h
    · exact (hag 8 (.inl rfl)).1 ▸ h
    · exact (hag 9 (.inl rfl)).1 ▸ h
    · trivial
  case steps =>
    refine StepsF.cons rfl ?_ (StepsF.cons rfl ?_ (StepsF.cons rfl ?_ (StepsF.cons rfl ?_ (StepsF.cons rfl ?_ (StepsF.cons rfl ?_ (StepsF.cons rfl ?_ (StepsF.cons rfl ?_ (StepsF.cons rfl ?_ (StepsF.cons rfl ?_ StepsF.nil)))))))))
    · rintro v lo hi W hb ⟨hE1, g0, g1, g2, g3⟩ hd K hK
      clear hd
      dsimp only
      go_wp2_with fail
      exact act_cast (hK (perV h c p.frm p.period) W (Below.refl _ _) rfl) (by simp)
    · rintro v lo hi W hb ⟨hE1, g0, g1, g2, g3⟩ hd K hK
      clear hd
      dsimp only
      go_wp2_with fail
      exact act_cast (hK (.int .i64 a) W (Below.refl _ _) rfl) (by simp)
    · rintro v lo hi W hb ⟨hE1, g0, g1, g2, g3⟩ hd K hK
      clear hd
      dsimp only
      go_wp2_with fail
      exact act_cast (hK (.int .i64 b) W (Below.refl _ _) rfl) (by simp)
    · rintro v lo hi W hb ⟨hE1, g0, g1, g2, g3⟩ hd K hK
      have e1 : v 1 = .int .i64 a := (hd 1 (Region.dep (by kernel_rfl))).2.2
      have e2 : v 2 = .int .i64 b := (hd 2 (Region.dep (by kernel_rfl))).2.2
      clear hd
      dsimp only
      (try simp only [e1, e2])
      go_wp2_with fail
      all_goals first | (exfalso; have := HM.out; omega) | exact act_cast (hK (.int .i64 M) W (Below.refl _ _) rfl) (by have := HM.out; simp [e1, e2]; try omega)
    · rintro v lo hi W hb ⟨hE1, g0, g1, g2, g3⟩ hd K hK
      have e0 : v 0 = perV h c p.frm p.period := (hd 0 (Region.dep (by kernel_rfl))).2.2
      have e3 : v 3 = .int .i64 M := (hd 3 (Region.dep (by kernel_rfl))).2.2
      clear hd
      dsimp only
      (try simp only [e0, e3])
      go_wp2_with (go_at_call 47; refine (Rbelow_any h c p _ _ (hl _ (by (repeat' (with_reducible first | assumption | exact Ext.refl _ | refine Ext.alloc ?_ _ | refine Ext.drew ?_ | refine Ext.drewN ?_ _ | (refine Ext.setCell ?_ (by first | (simp; done) | (simp; omega) | omega) _) | refine Ext.trans ?_ (by assumption))))) HV.out.wf f1 f2 (by omega) (by omega)).mono ?_; rintro e w3 ⟨rfl, hb3⟩)
      exact act_cast (hK (.int .i64 (belowI p M)) w3 hb3 rfl) (by simp [e0, e3])
    · rintro v lo hi W hb ⟨hE1, g0, g1, g2, g3⟩ hd K hK
      clear hd
      dsimp only
      go_wp2_with fail
      exact act_cast (hK (perV h c p.frm p.period) W (Below.refl _ _) rfl) (by simp)
    · rintro v lo hi W hb ⟨hE1, g0, g1, g2, g3⟩ hd K hK
      clear hd
      dsimp only
      go_wp2_with fail
      exact act_cast (hK (.int .i64 a) W (Below.refl _ _) rfl) (by simp)
    · rintro v lo hi W hb ⟨hE1, g0, g1, g2, g3⟩ hd K hK
      have e5 : v 5 = perV h c p.frm p.period := (hd 5 (Region.dep (by kernel_rfl))).2.2
      have e6 : v 6 = .int .i64 a := (hd 6 (Region.dep (by kernel_rfl))).2.2
      clear hd
      dsimp only
      (try simp only [e5, e6])
      go_wp2_with (go_at_call 47; refine (Rbelow_any h c p _ _ (hl _ (by (repeat' (with_reducible first | assumption | exact Ext.refl _ | refine Ext.alloc ?_ _ | refine Ext.drew ?_ | refine Ext.drewN ?_ _ | (refine Ext.setCell ?_ (by first | (simp; done) | (simp; omega) | omega) _) | refine Ext.trans ?_ (by assumption))))) HV.out.wf f1 f2 (by omega) (by omega)).mono ?_; rintro e w3 ⟨rfl, hb3⟩)
      exact act_cast (hK (.int .i64 (belowI p a)) w3 hb3 rfl) (by simp [e5, e6])
    · rintro v lo hi W hb ⟨hE1, g0, g1, g2, g3⟩ hd K hK
      have e4 : v 4 = .int .i64 (belowI p M) := (hd 4 (Region.dep (by kernel_rfl))).2.2
      have e7 : v 7 = .int .i64 (belowI p a) := (hd 7 (Region.dep (by kernel_rfl))).2.2
      clear hd
      dsimp only
      (try simp only [e4, e7])
      go_wp2_with fail
      exact act_cast (hK (.int .i64 (belowI p M - belowI p a)) W (Below.refl _ _) rfl) (by simp [e4, e7])
    · rintro v lo hi W hb ⟨hE1, g0, g1, g2, g3⟩ hd K hK
      have e8 : v 8 = .int .i64 (belowI p M - belowI p a) := (hd 8 (Region.dep (by kernel_rfl))).2.2
      clear hd
      dsimp only
      (try simp only [e8])
      go_wp2_with fail
      exact act_cast (hK (.bool false) W (Below.refl _ _) rfl) (by simp [e8]; omega)
  case fin =>
    rintro v lo hi W hb ⟨hE1, g0, g1, g2, g3⟩ hf hap
    show wpList _ _ _ [] _ _
    have e9 : v 9 = .bool false := (hf 9 rfl).2.2.2
    have hrb1 := hrb.below hb
    have hz9 := hrb1.lt
    have r0 := hrb1.cells 0
    have r1 := hrb1.cells 1
    have r2 := hrb1.cells 2
    have r3 := hrb1.cells 3
    have hbox : BoxIs W w.heap.size #[h, .int .i64 p.frm, .int .i64 p.period, c] 28 := hxb.below hb
    clear hf hap hA0 hA1 hA2 hA3 hrb hrb1 hxb hb
    dsimp only
    rw [e9]
    clear e9
    generalize v 0 = x0
    generalize v 1 = x1
    generalize v 2 = x2
    generalize v 3 = x3
    generalize v 4 = x4
    generalize v 5 = x5
    generalize v 6 = x6
    generalize v 7 = x7
    generalize v 8 = x8
    have hsz9 : w.heap.size + 1 < W.heap.size := hz9
    go_upto_region 8 with (go_at_call 48; refine (RMembers_any h c p a b _ (hl _ (by (repeat' (with_reducible first | assumption | exact Ext.refl _ | refine Ext.alloc ?_ _ | refine Ext.drew ?_ | refine Ext.drewN ?_ _ | (refine Ext.setCell ?_ (by first | (simp; done) | (simp; omega) | omega) _) | refine Ext.trans ?_ (by assumption))))) HV.out.wf f1 f2 h0 (by omega) (by omega) (by omega)).mono ?_; rintro e w2 ⟨vv, rfl, ho2, hb2⟩; rw [← HL9.out] at ho2; obtain ⟨oa, oc, rfl⟩ := ho2.form; obtain ⟨hc2, hf2⟩ := bcell hb2; (try simp only [World.size_alloc, World.size_drew, size_drewN, World.size_setCell] at hc2 hf2); have hz2 : w.heap.size + 1 < w2.heap.size := (by have h7 := hb2.size; omega))
    have hlen8 := ho2.len
    have HO2 := Lib.hid ho2
    have hint := ho2.ints
    clear ho2
    by_cases hz : l.length = 0
    · have hn : ¬ (0 : Int) < l.length := by omega
      have HQ : Hid (q = ⟨l, 0, 1, []⟩) := Lib.hid (by rw [HQ9.out, if_pos hz])
      clear hz hint
      go_wp2_with fail
      refine bodyPost_ret (v := .tuple #[perV (.slice oa l.length oc) (.slice none 0 0) 0 1, .int .i64 0]) (by simp [results, Try.results16, go_sem, *]) rfl ?_
      have ho2 := HO2.out
      rw [HQ.out]
      exact ⟨_, _, rfl, ⟨(ho2.above (by (repeat' (with_reducible first | exact Above.refl _ _ | refine Above.alloc ?_ _ | refine Above.drew ?_ | refine Above.drewN ?_ _ | refine Above.setCell ?_ (by first | (simp; done) | (simp; omega) | omega) _)))).mono (by omega), OwnI.nil _ _⟩, by (repeat' (with_reducible first | assumption | exact Ext.refl _ | refine Ext.alloc ?_ _ | refine Ext.drew ?_ | refine Ext.drewN ?_ _ | (refine Ext.setCell ?_ (by first | (simp; done) | (simp; omega) | omega) _) | refine Ext.trans ?_ (by assumption)))⟩
    · have hn : (0 : Int) < l.length := by omega
      have hlt : l.length - 1 < l.length := by omega
      obtain ⟨⟨a', c', he, _, _, h38⟩, _, hrg⟩ := hint
      injection he with e1 _ e2
      subst e1; subst e2
      rcases h38 with h38 | ⟨b8, o8, rfl, hcell⟩
      · rw [h38] at hz; exact absurd rfl hz
      have hcl := hcell (l.length - 1) hlt
      have hx1 : ((l.length : Int) - 1).toNat = l.length - 1 := by omega
      have hbd : 0 ≤ l.getD (l.length - 1) 0 ∧ l.getD (l.length - 1) 0 < b := by
        have h5 := getD_mem hlt
        rw [HL9.out] at h5
        have h6 := (sel_mem h0 _).1 h5
        rw [← HL9.out] at h6
        omega
      obtain ⟨x, hx⟩ : ∃ x, x = l.getD (l.length - 1) 0 := ⟨_, rfl⟩
      rw [← hx] at hcl hbd
      have HQ : Hid (q = ⟨l, x + 1, 1, []⟩) := Lib.hid (by rw [HQ9.out, if_neg hz, hx])
      have hblt : b8 < w2.heap.size := World.block_lt_of_cell? _ _ hcl
      clear hcell hz hx hrg
      go_wp2_with fail
      refine bodyPost_ret (v := .tuple #[perV (.slice (some ⟨b8, o8, none⟩) l.length oc) (.slice none 0 0) (x + 1) 1, .int .i64 0]) (by simp [results, Try.results16, go_sem, *]) rfl ?_
      have ho2 := HO2.out
      rw [HQ.out]
      exact ⟨_, _, rfl, ⟨(ho2.above (by (repeat' (with_reducible first | exact Above.refl _ _ | refine Above.alloc ?_ _ | refine Above.drew ?_ | refine Above.drewN ?_ _ | refine Above.setCell ?_ (by first | (simp; done) | (simp; omega) | omega) _)))).mono (by omega), OwnI.nil _ _⟩, by (repeat' (with_reducible first | assumption | exact Ext.refl _ | refine Ext.alloc ?_ _ | refine Ext.drew ?_ | refine Ext.drewN ?_ _ | (refine Ext.setCell ?_ (by first | (simp; done) | (simp; omega) | omega) _) | refine Ext.trans ?_ (by assumption)))⟩

theorem RCut_any (h c : Value) (p : Per) (a b : Int) (w : World) (hp : PerIs w h c p) (hv : Valid p) (hcn : 0 ≤ a → a ≤ 1099511627776 → a ≤ b → belowI p b - belowI p a ≤ 1048576) :
    Calls Try.prog 16 #[perV h c p.frm p.period, .int .i64 a, .int .i64 b] w (CutRes p a b w) := by
  cases hok : okCut p a b with
  | false =>
    have i1 : InI p.frm := by have := hv.frm; have := hv.wf.frm; exact ⟨by omega, by omega⟩
    have i2 : InI p.period := by have := hv.per; have := hv.wf.per; exact ⟨by omega, by omega⟩
    exact (RCut_bad h c p a b w hp i1 i2 hok).mono fun e w' hr => .bad hok hr
  | true =>
    obtain ⟨h0, h1, h2, h3⟩ := (okCut_iff hv).1 hok
    by_cases hb : b = -1
    · subst hb
      obtain ⟨q, hq⟩ := exists_canon (laterP_ok hv.wf h0).1
      have hq1 : IsCanon q (fun n => p.mem n ∧ a ≤ n) := hq.congr (laterP_ok hv.wf h0).2
      exact (RCut_tail h c p q a w hp hv h0 h1 hq1).mono fun e w' hr => .ok hok (hq1.congr fun n => ⟨fun ⟨x, y⟩ => ⟨x, y, .inl rfl⟩, fun ⟨x, y, _⟩ => ⟨x, y⟩⟩) hr
    · have hq := win_canon (p := p) (b := b) h0 (by omega)
      refine (RCut_win h c p a b _ w hp hv h0 h1 (by omega) h3 rfl ?_ _ rfl _ rfl).mono fun e w' hr => .ok hok hq hr
      rcases Int.lt_or_le a b with hab | hab
      · rw [show max a b = b from by omega]; exact hcn h0 h1 (by omega)
      · rw [show max a b = a from by omega]; omega

end Go.Proofs.Ytjilkhhokkncoaa
