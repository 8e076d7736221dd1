/- Walks: PeriodicWindows (package kalendslaw04). -/
import Derived.Test.YtjilkhhokkncoaaK15
import Derived.Test.YtjilkhhokkncoaaWalkNx
import Derived.Test.YtjilkhhokkncoaaRegS
set_option linter.unusedVariables false
set_option linter.unusedSimpArgs false
namespace Go.Proofs.Ytjilkhhokkncoaa
open Go.RowKit Go.Maps Kal

theorem next_none {S : Int → Prop} {d n x : Int} (h : NextIs S d n false) (hx : d ≤ x) : ¬ S x := by
  rcases h with ⟨h, _⟩ | ⟨_, _, h⟩
  · cases h
  · exact h x hx
theorem NextIs.mem {S : Int → Prop} {d n : Int} (h : NextIs S d n true) : S n := by
  rcases h with ⟨_, _, h, _⟩ | ⟨h, _⟩
  · exact h
  · cases h
theorem NextIs.apart {S : Int → Prop} {d n : Int} (h : NextIs S d n true) (hne : ¬ n = d) : ¬ S d := by
  rcases h with ⟨_, h1, h2, h3⟩ | ⟨h, _⟩
  · exact h3 d (Int.le_refl _) (by omega)
  · cases h
theorem NextIs.skip {S : Int → Prop} {d n : Int} {b : Bool} (h : NextIs S d n b) (hno : ¬ S d) : NextIs S (d + 1) n b := by
  rcases h with ⟨h0, h1, h2, h3⟩ | ⟨h0, h1, h2⟩
  · refine .inl ⟨h0, ?_, h2, fun x hx => h3 x (by omega)⟩
    rcases Int.lt_or_le d n with h | h
    · omega
    · obtain rfl : n = d := by omega
      exact absurd h2 hno
  · exact .inr ⟨h0, h1, fun x hx => h2 x (by omega)⟩

theorem fin_cycle {q : Per} (h : q.WF) {b : Int} (hb : ∀ n, q.mem n → n < b) : q.cycle = [] := by
  rcases hc : q.cycle with _ | ⟨c, l⟩
  · rfl
  · exfalso
    have hp := h.per
    have hf := h.frm
    have hm : c ∈ q.cycle := by rw [hc]; simp
    have h1 := ((h.cyc_mem c).1 hm)
    obtain ⟨k, hk, hk0⟩ := exists_mul_ge q.period (b - (q.frm + c)) hp
    have h2 := (h.pfrom.mul (by omega) k (q.frm + c) (by omega)).1 h1.2.2
    have := hb _ h2
    omega

theorem cut_pf {p : Per} {a b : Int} : PFrom (fun n => p.mem n ∧ a ≤ n ∧ n < b) b 1 := fun n hn => ⟨fun h => by omega, fun h => by omega⟩
theorem cut_ex {p : Per} {a b : Int} (hb : 0 ≤ b) : ∃ q, IsCanon q (fun n => p.mem n ∧ a ≤ n ∧ n < b) ∧ Sm b 1 q := canon_sm hb (by omega) (fun n h => h.1.1) cut_pf
theorem tail_pf {p : Per} {F B a : Int} (h : Sm F B p) (ha : 0 ≤ a) : PFrom (fun n => p.mem n ∧ a ≤ n) (F + a) p.period := by
  intro n hn
  have hF : 0 ≤ F := by have := h.wf.frm; have := h.frm; omega
  have hp := h.wf.per
  have h1 := h.pf n (by omega)
  exact ⟨fun g => ⟨h1.1 g.1, by omega⟩, fun g => ⟨h1.2 g.1, by omega⟩⟩
theorem tail_ex {p : Per} {F B a : Int} (h : Sm F B p) (ha : 0 ≤ a) : ∃ q, IsCanon q (fun n => p.mem n ∧ a ≤ n) ∧ Sm (F + a) B q := by
  have hF : 0 ≤ F := by have := h.wf.frm; have := h.frm; omega
  obtain ⟨q, hq, hs⟩ := canon_sm (S := fun n => p.mem n ∧ a ≤ n) (f := F + a) (d := p.period) (by omega) h.wf.per (fun n h => h.1.1) (tail_pf h ha)
  exact ⟨q, hq, hs.mono (Int.le_refl _) h.per⟩

theorem belowI_le {p : Per} (h : p.WF) {n : Int} (hn : 0 ≤ n) : 0 ≤ belowI p n ∧ belowI p n ≤ n := by
  rw [belowI_cnt' h hn]
  have := cnt_bound p.mem n.toNat
  omega

theorem Cut_sm (h c : Value) (p q : Per) (a b F B : Int) (w : World) (hp : PerIs w h c p) (s : Sm F B p) (hb : F + B ≤ 1048576) (h0 : 0 ≤ a) (hab : a ≤ b) (h1 : b ≤ 1000000) (hq : IsCanon q (fun n => p.mem n ∧ a ≤ n ∧ n < b)) :
    Calls Try.prog 15 #[perV h c p.frm p.period, .int .i64 a, .int .i64 b] w (PerOk q w) := by
  rcases Int.lt_or_le a b with hlt | hge
  · have e1 := belowI_le s.wf (n := b) (by omega)
    have e2 := belowI_le s.wf (n := a) h0
    exact Cut_win h c p q a b w hp (s.valid hb) h0 hlt (by omega) (by omega) hq
  · have e : q = ⟨[], 0, 1, []⟩ := by
      have hz : IsCanon (⟨[], 0, 1, []⟩ : Per) (fun n => p.mem n ∧ a ≤ n ∧ n < b) := by
        have h9 := canon_fin (p := ⟨[], 0, 1, []⟩) ⟨by simp, by simp, Rise.nil, Rise.nil⟩ rfl
        exact h9.congr fun n => ⟨fun h => by have h2 := h.2; simp at h2, fun h => by omega⟩
      exact hq.unique hz
    subst e
    exact Cut_none h c p a b w hp (s.valid hb) h0 (by omega) (by omega) hge

theorem Tail_sm (h c : Value) (p q : Per) (a F B : Int) (w : World) (hp : PerIs w h c p) (s : Sm F B p) (hb : F + B ≤ 1048576) (h0 : 0 ≤ a) (h1 : a ≤ 1000000) (hq : IsCanon q (fun n => p.mem n ∧ a ≤ n)) :
    Calls Try.prog 15 #[perV h c p.frm p.period, .int .i64 a, .int .i64 (-1)] w (PerOk q w) :=
  Cut_tail h c p q a w hp (s.valid hb) h0 (by omega) hq

theorem inI_of {x : Int} (h1 : -9223372036854775808 ≤ x) (h2 : x ≤ 9223372036854775807) : InI x := ⟨h1, h2⟩
theorem or_and_below {x y o an : Per} (hx : x.WF) (hy : y.WF) (ho : o.WF) (ha : an.WF) (Ho : IsCanon o (fun n => x.mem n ∨ y.mem n)) (Ha : IsCanon an (fun n => x.mem n ∧ y.mem n)) {n : Int} (hn : 0 ≤ n) :
    belowI x n + belowI y n = belowI o n + belowI an n := by
  rw [belowI_cnt' hx hn, belowI_cnt' hy hn, belowI_cnt' ho hn, belowI_cnt' ha hn, cnt_or_and, cnt_congr Ho.mem, cnt_congr Ha.mem]

set_option maxRecDepth 100000 in
set_option maxHeartbeats 8000000 in
theorem PeriodicWindows_any (va : Value) (vb : Value) (w0 w1 : Int) (w : World) (hra : RawIs w va) (hrb : RawIs w vb) (wa0 : 0 ≤ w0) (wa1 : w0 ≤ 255) (wb0 : 0 ≤ w1) (wb1 : w1 ≤ 255) :
    Calls Try.prog 8 #[va, vb, .agg #[.int .u8 w0, .int .u8 w1]] w fun e w' => e = .returned (.bool true) ∧ Below w.heap.size w w' := by
  obtain ⟨hva, cva, hla, cla, fa, ta, rfl, hBa, hCa, f0a, f1a, t0a, t1a⟩ := hra
  have HBa := Lib.hid hBa
  have HCa := Lib.hid hCa
  obtain ⟨⟨a1a, c1a, rfl, jA⟩, jB, jC⟩ := hBa
  clear jA jB jC
  obtain ⟨⟨a2a, c2a, rfl, jA⟩, jB, jC⟩ := hCa
  clear jA jB jC
  obtain ⟨hvb, cvb, hlb, clb, fb, tb, rfl, hBb, hCb, f0b, f1b, t0b, t1b⟩ := hrb
  have HBb := Lib.hid hBb
  have HCb := Lib.hid hCb
  obtain ⟨⟨a1b, c1b, rfl, jA⟩, jB, jC⟩ := hBb
  clear jA jB jC
  obtain ⟨⟨a2b, c2b, rfl, jA⟩, jB, jC⟩ := hCb
  clear jA jB jC
  go_enter Try.func8, Try.ntmps8
  go_upto_region 1 with (fail)
  refine wp_abs (F := fun U => BoxIs U (w.heap.size) #[.slice a1a hla.length c1a, .int .u8 fa, .int .u8 ta, .slice a2a cla.length c2a] 24 ∧ BoxIs U (w.heap.size + 1) #[.slice a1b hlb.length c1b, .int .u8 fb, .int .u8 tb, .slice a2b clb.length c2b] 24 ∧ Sets U [] ∧ BoxIs U (w.heap.size + 1 + 1) #[.int .u8 w0, .int .u8 w1] 53 ∧ Below w.heap.size w U) ⟨by (first | (refine BoxIs.at ?_; simp; done) | (refine (BoxIs.at ?_).alloc _; simp; done) | (refine ((BoxIs.at ?_).alloc _).alloc _; simp; done) | (refine (((BoxIs.at ?_).alloc _).alloc _).alloc _; simp; done) | (refine ((((BoxIs.at ?_).alloc _).alloc _).alloc _).alloc _; simp; done) | (refine (((((BoxIs.at ?_).alloc _).alloc _).alloc _).alloc _).alloc _; simp; done) | (refine ((((((BoxIs.at ?_).alloc _).alloc _).alloc _).alloc _).alloc _).alloc _; simp; done) | (refine (((((((BoxIs.at ?_).alloc _).alloc _).alloc _).alloc _).alloc _).alloc _).alloc _; simp; done) | (refine ((((((((BoxIs.at ?_).alloc _).alloc _).alloc _).alloc _).alloc _).alloc _).alloc _).alloc _; simp; done) | (refine (((((((((BoxIs.at ?_).alloc _).alloc _).alloc _).alloc _).alloc _).alloc _).alloc _).alloc _).alloc _; simp; done) | (refine ((((((((((BoxIs.at ?_).alloc _).alloc _).alloc _).alloc _).alloc _).alloc _).alloc _).alloc _).alloc _).alloc _; simp; done) | (refine (((((((((((BoxIs.at ?_).alloc _).alloc _).alloc _).alloc _).alloc _).alloc _).alloc _).alloc _).alloc _).alloc _).alloc _; simp; done)), by (first | (refine BoxIs.at ?_; simp; done) | (refine (BoxIs.at ?_).alloc _; simp; done) | (refine ((BoxIs.at ?_).alloc _).alloc _; simp; done) | (refine (((BoxIs.at ?_).alloc _).alloc _).alloc _; simp; done) | (refine ((((BoxIs.at ?_).alloc _).alloc _).alloc _).alloc _; simp; done) | (refine (((((BoxIs.at ?_).alloc _).alloc _).alloc _).alloc _).alloc _; simp; done) | (refine ((((((BoxIs.at ?_).alloc _).alloc _).alloc _).alloc _).alloc _).alloc _; simp; done) | (refine (((((((BoxIs.at ?_).alloc _).alloc _).alloc _).alloc _).alloc _).alloc _).alloc _; simp; done) | (refine ((((((((BoxIs.at ?_).alloc _).alloc _).alloc _).alloc _).alloc _).alloc _).alloc _).alloc _; simp; done) | (refine (((((((((BoxIs.at ?_).alloc _).alloc _).alloc _).alloc _).alloc _).alloc _).alloc _).alloc _).alloc _; simp; done) | (refine ((((((((((BoxIs.at ?_).alloc _).alloc _).alloc _).alloc _).alloc _).alloc _).alloc _).alloc _).alloc _).alloc _; simp; done) | (refine (((((((((((BoxIs.at ?_).alloc _).alloc _).alloc _).alloc _).alloc _).alloc _).alloc _).alloc _).alloc _).alloc _).alloc _; simp; done)), Sets.nil _, by (first | (refine BoxIs.at ?_; simp; done) | (refine (BoxIs.at ?_).alloc _; simp; done) | (refine ((BoxIs.at ?_).alloc _).alloc _; simp; done) | (refine (((BoxIs.at ?_).alloc _).alloc _).alloc _; simp; done) | (refine ((((BoxIs.at ?_).alloc _).alloc _).alloc _).alloc _; simp; done) | (refine (((((BoxIs.at ?_).alloc _).alloc _).alloc _).alloc _).alloc _; simp; done) | (refine ((((((BoxIs.at ?_).alloc _).alloc _).alloc _).alloc _).alloc _).alloc _; simp; done) | (refine (((((((BoxIs.at ?_).alloc _).alloc _).alloc _).alloc _).alloc _).alloc _).alloc _; simp; done) | (refine ((((((((BoxIs.at ?_).alloc _).alloc _).alloc _).alloc _).alloc _).alloc _).alloc _).alloc _; simp; done) | (refine (((((((((BoxIs.at ?_).alloc _).alloc _).alloc _).alloc _).alloc _).alloc _).alloc _).alloc _).alloc _; simp; done) | (refine ((((((((((BoxIs.at ?_).alloc _).alloc _).alloc _).alloc _).alloc _).alloc _).alloc _).alloc _).alloc _).alloc _; simp; done) | (refine (((((((((((BoxIs.at ?_).alloc _).alloc _).alloc _).alloc _).alloc _).alloc _).alloc _).alloc _).alloc _).alloc _).alloc _; simp; done)), by (repeat' (with_reducible first | assumption | exact Ext.refl _ | refine Ext.alloc ?_ _ | refine Ext.drew ?_ | refine Ext.drewN ?_ _ | (refine Ext.setCell ?_ (by first | (simp; done) | (simp; omega) | omega) _) | refine Ext.trans ?_ (by assumption)))⟩ ?_
  rintro W1 ⟨hWa, hWb, hS, hX0, hE⟩
  go_upto_region 2 with (go_at_call 13; refine (sanity_any _).mono ?_; rintro e u1 ⟨rfl, k1⟩)
  refine wp_abs (F := fun U => BoxIs U (w.heap.size) #[.slice a1a hla.length c1a, .int .u8 fa, .int .u8 ta, .slice a2a cla.length c2a] 24 ∧ BoxIs U (w.heap.size + 1) #[.slice a1b hlb.length c1b, .int .u8 fb, .int .u8 tb, .slice a2b clb.length c2b] 24 ∧ Sets U [] ∧ BoxIs U (w.heap.size + 1 + 1) #[.int .u8 w0, .int .u8 w1] 53 ∧ Below w.heap.size w U) ⟨hWa.below (by (repeat' (with_reducible first | assumption | exact Ext.refl _ | refine Ext.alloc ?_ _ | refine Ext.drew ?_ | refine Ext.drewN ?_ _ | (refine Ext.setCell ?_ (by first | (simp; done) | (simp; omega) | omega) _) | refine Ext.trans ?_ (by assumption)))), hWb.below (by (repeat' (with_reducible first | assumption | exact Ext.refl _ | refine Ext.alloc ?_ _ | refine Ext.drew ?_ | refine Ext.drewN ?_ _ | (refine Ext.setCell ?_ (by first | (simp; done) | (simp; omega) | omega) _) | refine Ext.trans ?_ (by assumption)))), hS.below (by (repeat' (with_reducible first | assumption | exact Ext.refl _ | refine Ext.alloc ?_ _ | refine Ext.drew ?_ | refine Ext.drewN ?_ _ | (refine Ext.setCell ?_ (by first | (simp; done) | (simp; omega) | omega) _) | refine Ext.trans ?_ (by assumption)))), hX0.below (by (repeat' (with_reducible first | assumption | exact Ext.refl _ | refine Ext.alloc ?_ _ | refine Ext.drew ?_ | refine Ext.drewN ?_ _ | (refine Ext.setCell ?_ (by first | (simp; done) | (simp; omega) | omega) _) | refine Ext.trans ?_ (by assumption)))), by (repeat' (with_reducible first | assumption | exact Ext.refl _ | refine Ext.alloc ?_ _ | refine Ext.drew ?_ | refine Ext.drewN ?_ _ | (refine Ext.setCell ?_ (by first | (simp; done) | (simp; omega) | omega) _) | refine Ext.trans ?_ (by assumption)))⟩ ?_
  clear hWa hWb hS hX0 hE k1
  rintro W2 ⟨hWa, hWb, hS, hX0, hE⟩
  have r0 := (hWa.cells 0).1
  have r1 := (hWa.cells 1).1
  have r2 := (hWa.cells 2).1
  have r3 := (hWa.cells 3).1
  go_upto_region 3 with (go_at_call 14; refine (Made_any _ _ hla cla fa ta _ (HBa.out.ext (by (repeat' (with_reducible first | assumption | exact Ext.refl _ | refine Ext.alloc ?_ _ | refine Ext.drew ?_ | refine Ext.drewN ?_ _ | (refine Ext.setCell ?_ (by first | (simp; done) | (simp; omega) | omega) _) | refine Ext.trans ?_ (by assumption))))) (HCa.out.ext (by (repeat' (with_reducible first | assumption | exact Ext.refl _ | refine Ext.alloc ?_ _ | refine Ext.drew ?_ | refine Ext.drewN ?_ _ | (refine Ext.setCell ?_ (by first | (simp; done) | (simp; omega) | omega) _) | refine Ext.trans ?_ (by assumption))))) f0a f1a t0a t1a).mono ?_; rintro e uR ⟨hR, cR, x, rfl, oR, wfx, frx, prx, kR⟩; have sR := oR.is; obtain ⟨x1_2, y1_2, x2_2, y2_2, rfl, rfl⟩ := oR.form; clear oR)
  have Sx : Hid (Sm 20 12 x) := Lib.hid ⟨wfx, frx, prx⟩
  refine wp_abs (F := fun U => BoxIs U (w.heap.size + 1) #[.slice a1b hlb.length c1b, .int .u8 fb, .int .u8 tb, .slice a2b clb.length c2b] 24 ∧ Sets U ((uR.heap.size, x) :: []) ∧ BoxIs U (w.heap.size + 1 + 1) #[.int .u8 w0, .int .u8 w1] 53 ∧ Below w.heap.size w U) ⟨hWb.below (by (repeat' (with_reducible first | assumption | exact Ext.refl _ | refine Ext.alloc ?_ _ | refine Ext.drew ?_ | refine Ext.drewN ?_ _ | (refine Ext.setCell ?_ (by first | (simp; done) | (simp; omega) | omega) _) | refine Ext.trans ?_ (by assumption)))), Sets.cons ⟨.slice x1_2 (x : Per).head.length y1_2, .slice x2_2 (x : Per).cycle.length y2_2, by (first | (refine BoxIs.at ?_; simp; done) | (refine (BoxIs.at ?_).alloc _; simp; done) | (refine ((BoxIs.at ?_).alloc _).alloc _; simp; done) | (refine (((BoxIs.at ?_).alloc _).alloc _).alloc _; simp; done) | (refine ((((BoxIs.at ?_).alloc _).alloc _).alloc _).alloc _; simp; done) | (refine (((((BoxIs.at ?_).alloc _).alloc _).alloc _).alloc _).alloc _; simp; done) | (refine ((((((BoxIs.at ?_).alloc _).alloc _).alloc _).alloc _).alloc _).alloc _; simp; done) | (refine (((((((BoxIs.at ?_).alloc _).alloc _).alloc _).alloc _).alloc _).alloc _).alloc _; simp; done) | (refine ((((((((BoxIs.at ?_).alloc _).alloc _).alloc _).alloc _).alloc _).alloc _).alloc _).alloc _; simp; done) | (refine (((((((((BoxIs.at ?_).alloc _).alloc _).alloc _).alloc _).alloc _).alloc _).alloc _).alloc _).alloc _; simp; done) | (refine ((((((((((BoxIs.at ?_).alloc _).alloc _).alloc _).alloc _).alloc _).alloc _).alloc _).alloc _).alloc _).alloc _; simp; done) | (refine (((((((((((BoxIs.at ?_).alloc _).alloc _).alloc _).alloc _).alloc _).alloc _).alloc _).alloc _).alloc _).alloc _).alloc _; simp; done)), sR.ext (by (repeat' (with_reducible first | assumption | exact Ext.refl _ | refine Ext.alloc ?_ _ | refine Ext.drew ?_ | refine Ext.drewN ?_ _ | (refine Ext.setCell ?_ (by first | (simp; done) | (simp; omega) | omega) _) | refine Ext.trans ?_ (by assumption))))⟩ (hS.below (by (repeat' (with_reducible first | assumption | exact Ext.refl _ | refine Ext.alloc ?_ _ | refine Ext.drew ?_ | refine Ext.drewN ?_ _ | (refine Ext.setCell ?_ (by first | (simp; done) | (simp; omega) | omega) _) | refine Ext.trans ?_ (by assumption))))), hX0.below (by (repeat' (with_reducible first | assumption | exact Ext.refl _ | refine Ext.alloc ?_ _ | refine Ext.drew ?_ | refine Ext.drewN ?_ _ | (refine Ext.setCell ?_ (by first | (simp; done) | (simp; omega) | omega) _) | refine Ext.trans ?_ (by assumption)))), by (repeat' (with_reducible first | assumption | exact Ext.refl _ | refine Ext.alloc ?_ _ | refine Ext.drew ?_ | refine Ext.drewN ?_ _ | (refine Ext.setCell ?_ (by first | (simp; done) | (simp; omega) | omega) _) | refine Ext.trans ?_ (by assumption)))⟩ ?_
  clear hWa hWb hS hX0 hE sR kR r0 r1 r2 r3 wfx frx prx
  generalize uR.heap.size = b2 at *
  rintro W3 ⟨hWb, hS, hX0, hE⟩
  have r0 := (hWb.cells 0).1
  have r1 := (hWb.cells 1).1
  have r2 := (hWb.cells 2).1
  have r3 := (hWb.cells 3).1
  go_upto_region 4 with (go_at_call 14; refine (Made_any _ _ hlb clb fb tb _ (HBb.out.ext (by (repeat' (with_reducible first | assumption | exact Ext.refl _ | refine Ext.alloc ?_ _ | refine Ext.drew ?_ | refine Ext.drewN ?_ _ | (refine Ext.setCell ?_ (by first | (simp; done) | (simp; omega) | omega) _) | refine Ext.trans ?_ (by assumption))))) (HCb.out.ext (by (repeat' (with_reducible first | assumption | exact Ext.refl _ | refine Ext.alloc ?_ _ | refine Ext.drew ?_ | refine Ext.drewN ?_ _ | (refine Ext.setCell ?_ (by first | (simp; done) | (simp; omega) | omega) _) | refine Ext.trans ?_ (by assumption))))) f0b f1b t0b t1b).mono ?_; rintro e uR ⟨hR, cR, y, rfl, oR, wfy, fry, pry, kR⟩; have sR := oR.is; obtain ⟨x1_3, y1_3, x2_3, y2_3, rfl, rfl⟩ := oR.form; clear oR)
  have Sy : Hid (Sm 20 12 y) := Lib.hid ⟨wfy, fry, pry⟩
  refine wp_abs (F := fun U => Sets U ((uR.heap.size, y) :: [(b2, x)]) ∧ BoxIs U (w.heap.size + 1 + 1) #[.int .u8 w0, .int .u8 w1] 53 ∧ Below w.heap.size w U) ⟨Sets.cons ⟨.slice x1_3 (y : Per).head.length y1_3, .slice x2_3 (y : Per).cycle.length y2_3, by (first | (refine BoxIs.at ?_; simp; done) | (refine (BoxIs.at ?_).alloc _; simp; done) | (refine ((BoxIs.at ?_).alloc _).alloc _; simp; done) | (refine (((BoxIs.at ?_).alloc _).alloc _).alloc _; simp; done) | (refine ((((BoxIs.at ?_).alloc _).alloc _).alloc _).alloc _; simp; done) | (refine (((((BoxIs.at ?_).alloc _).alloc _).alloc _).alloc _).alloc _; simp; done) | (refine ((((((BoxIs.at ?_).alloc _).alloc _).alloc _).alloc _).alloc _).alloc _; simp; done) | (refine (((((((BoxIs.at ?_).alloc _).alloc _).alloc _).alloc _).alloc _).alloc _).alloc _; simp; done) | (refine ((((((((BoxIs.at ?_).alloc _).alloc _).alloc _).alloc _).alloc _).alloc _).alloc _).alloc _; simp; done) | (refine (((((((((BoxIs.at ?_).alloc _).alloc _).alloc _).alloc _).alloc _).alloc _).alloc _).alloc _).alloc _; simp; done) | (refine ((((((((((BoxIs.at ?_).alloc _).alloc _).alloc _).alloc _).alloc _).alloc _).alloc _).alloc _).alloc _).alloc _; simp; done) | (refine (((((((((((BoxIs.at ?_).alloc _).alloc _).alloc _).alloc _).alloc _).alloc _).alloc _).alloc _).alloc _).alloc _).alloc _; simp; done)), sR.ext (by (repeat' (with_reducible first | assumption | exact Ext.refl _ | refine Ext.alloc ?_ _ | refine Ext.drew ?_ | refine Ext.drewN ?_ _ | (refine Ext.setCell ?_ (by first | (simp; done) | (simp; omega) | omega) _) | refine Ext.trans ?_ (by assumption))))⟩ (hS.below (by (repeat' (with_reducible first | assumption | exact Ext.refl _ | refine Ext.alloc ?_ _ | refine Ext.drew ?_ | refine Ext.drewN ?_ _ | (refine Ext.setCell ?_ (by first | (simp; done) | (simp; omega) | omega) _) | refine Ext.trans ?_ (by assumption))))), hX0.below (by (repeat' (with_reducible first | assumption | exact Ext.refl _ | refine Ext.alloc ?_ _ | refine Ext.drew ?_ | refine Ext.drewN ?_ _ | (refine Ext.setCell ?_ (by first | (simp; done) | (simp; omega) | omega) _) | refine Ext.trans ?_ (by assumption)))), by (repeat' (with_reducible first | assumption | exact Ext.refl _ | refine Ext.alloc ?_ _ | refine Ext.drew ?_ | refine Ext.drewN ?_ _ | (refine Ext.setCell ?_ (by first | (simp; done) | (simp; omega) | omega) _) | refine Ext.trans ?_ (by assumption)))⟩ ?_
  clear hWb hS hX0 hE sR kR r0 r1 r2 r3 wfy fry pry
  generalize uR.heap.size = b3 at *
  rintro W4 ⟨hS, hX0, hE⟩
  have e0 := (hX0.cells 0).1
  have e1 := (hX0.cells 1).1
  have fr0 : 0 ≤ w0 % 60 ∧ w0 % 60 < 60 := ⟨Int.emod_nonneg _ (by omega), Int.emod_lt_of_pos _ (by omega)⟩
  have sz0 : 0 ≤ w1 % 120 ∧ w1 % 120 < 120 := ⟨Int.emod_nonneg _ (by omega), Int.emod_lt_of_pos _ (by omega)⟩
  go_upto_region 6 with (fail)
  generalize w0 % 60 = fr at *
  generalize w1 % 120 = sz at *
  obtain ⟨to, hto⟩ : ∃ to, to = fr + sz := ⟨_, rfl⟩
  rw [← hto]
  have to0 : fr ≤ to ∧ to < 180 := by omega
  clear e0 e1 hto sz0
  clear hX0
  obtain ⟨cu, hqcu, hscu⟩ := cut_ex (p := x) (a := fr) (b := to) (by omega)
  have Qcu := Lib.hid hqcu
  have Scu := Lib.hid hscu
  obtain ⟨tl, hqtl, hstl⟩ := tail_ex (a := fr) Sx.out (by omega)
  have Qtl := Lib.hid hqtl
  have Stl : Hid (Sm 80 12 tl) := Lib.hid (hstl.mono (by omega) (by omega))
  clear hqcu hscu hqtl hstl
  obtain ⟨hA_6, cA_6, gA⟩ := hS.at 1 rfl
  have qa0 := (gA.box.cells 0).1
  have qa1 := (gA.box.cells 1).1
  have qa2 := (gA.box.cells 2).1
  have qa3 := (gA.box.cells 3).1
  go_upto_region 7 with (go_at_call 15; refine (Cut_sm hA_6 cA_6 x cu fr to 20 12 _ (gA.is.ext (by (repeat' (with_reducible first | assumption | exact Ext.refl _ | refine Ext.alloc ?_ _ | refine Ext.drew ?_ | refine Ext.drewN ?_ _ | (refine Ext.setCell ?_ (by first | (simp; done) | (simp; omega) | omega) _) | refine Ext.trans ?_ (by assumption))))) Sx.out (by omega) (by omega) (by omega) (by omega) Qcu.out).mono ?_; rintro e uR ⟨hR_6, cR_6, rfl, oR, kR⟩; have sR := oR.is; obtain ⟨x1_6, y1_6, x2_6, y2_6, rfl, rfl⟩ := oR.form; clear oR)
  refine wp_abs (F := fun U => Sets U ((uR.heap.size, cu) :: [(b3, y), (b2, x)]) ∧ Below w.heap.size w U) ⟨Sets.cons ⟨.slice x1_6 (cu : Per).head.length y1_6, .slice x2_6 (cu : Per).cycle.length y2_6, by (first | (refine BoxIs.at ?_; simp; done) | (refine (BoxIs.at ?_).alloc _; simp; done) | (refine ((BoxIs.at ?_).alloc _).alloc _; simp; done) | (refine (((BoxIs.at ?_).alloc _).alloc _).alloc _; simp; done) | (refine ((((BoxIs.at ?_).alloc _).alloc _).alloc _).alloc _; simp; done) | (refine (((((BoxIs.at ?_).alloc _).alloc _).alloc _).alloc _).alloc _; simp; done) | (refine ((((((BoxIs.at ?_).alloc _).alloc _).alloc _).alloc _).alloc _).alloc _; simp; done) | (refine (((((((BoxIs.at ?_).alloc _).alloc _).alloc _).alloc _).alloc _).alloc _).alloc _; simp; done) | (refine ((((((((BoxIs.at ?_).alloc _).alloc _).alloc _).alloc _).alloc _).alloc _).alloc _).alloc _; simp; done) | (refine (((((((((BoxIs.at ?_).alloc _).alloc _).alloc _).alloc _).alloc _).alloc _).alloc _).alloc _).alloc _; simp; done) | (refine ((((((((((BoxIs.at ?_).alloc _).alloc _).alloc _).alloc _).alloc _).alloc _).alloc _).alloc _).alloc _).alloc _; simp; done) | (refine (((((((((((BoxIs.at ?_).alloc _).alloc _).alloc _).alloc _).alloc _).alloc _).alloc _).alloc _).alloc _).alloc _).alloc _; simp; done)), sR.ext (by (repeat' (with_reducible first | assumption | exact Ext.refl _ | refine Ext.alloc ?_ _ | refine Ext.drew ?_ | refine Ext.drewN ?_ _ | (refine Ext.setCell ?_ (by first | (simp; done) | (simp; omega) | omega) _) | refine Ext.trans ?_ (by assumption))))⟩ (hS.below (by (repeat' (with_reducible first | assumption | exact Ext.refl _ | refine Ext.alloc ?_ _ | refine Ext.drew ?_ | refine Ext.drewN ?_ _ | (refine Ext.setCell ?_ (by first | (simp; done) | (simp; omega) | omega) _) | refine Ext.trans ?_ (by assumption))))), by (repeat' (with_reducible first | assumption | exact Ext.refl _ | refine Ext.alloc ?_ _ | refine Ext.drew ?_ | refine Ext.drewN ?_ _ | (refine Ext.setCell ?_ (by first | (simp; done) | (simp; omega) | omega) _) | refine Ext.trans ?_ (by assumption)))⟩ ?_
  clear hS hE sR kR gA qa0 qa1 qa2 qa3
  generalize uR.heap.size = b6 at *
  rintro W5 ⟨hS, hE⟩
  obtain ⟨hA_7, cA_7, gA⟩ := hS.at 2 rfl
  have qa0 := (gA.box.cells 0).1
  have qa1 := (gA.box.cells 1).1
  have qa2 := (gA.box.cells 2).1
  have qa3 := (gA.box.cells 3).1
  go_upto_region 8 with (go_at_call 15; refine (Tail_sm hA_7 cA_7 x tl fr 20 12 _ (gA.is.ext (by (repeat' (with_reducible first | assumption | exact Ext.refl _ | refine Ext.alloc ?_ _ | refine Ext.drew ?_ | refine Ext.drewN ?_ _ | (refine Ext.setCell ?_ (by first | (simp; done) | (simp; omega) | omega) _) | refine Ext.trans ?_ (by assumption))))) Sx.out (by omega) (by omega) (by omega) Qtl.out).mono ?_; rintro e uR ⟨hR_7, cR_7, rfl, oR, kR⟩; have sR := oR.is; obtain ⟨x1_7, y1_7, x2_7, y2_7, rfl, rfl⟩ := oR.form; clear oR)
  refine wp_abs (F := fun U => Sets U ((uR.heap.size, tl) :: [(b6, cu), (b3, y), (b2, x)]) ∧ Below w.heap.size w U) ⟨Sets.cons ⟨.slice x1_7 (tl : Per).head.length y1_7, .slice x2_7 (tl : Per).cycle.length y2_7, by (first | (refine BoxIs.at ?_; simp; done) | (refine (BoxIs.at ?_).alloc _; simp; done) | (refine ((BoxIs.at ?_).alloc _).alloc _; simp; done) | (refine (((BoxIs.at ?_).alloc _).alloc _).alloc _; simp; done) | (refine ((((BoxIs.at ?_).alloc _).alloc _).alloc _).alloc _; simp; done) | (refine (((((BoxIs.at ?_).alloc _).alloc _).alloc _).alloc _).alloc _; simp; done) | (refine ((((((BoxIs.at ?_).alloc _).alloc _).alloc _).alloc _).alloc _).alloc _; simp; done) | (refine (((((((BoxIs.at ?_).alloc _).alloc _).alloc _).alloc _).alloc _).alloc _).alloc _; simp; done) | (refine ((((((((BoxIs.at ?_).alloc _).alloc _).alloc _).alloc _).alloc _).alloc _).alloc _).alloc _; simp; done) | (refine (((((((((BoxIs.at ?_).alloc _).alloc _).alloc _).alloc _).alloc _).alloc _).alloc _).alloc _).alloc _; simp; done) | (refine ((((((((((BoxIs.at ?_).alloc _).alloc _).alloc _).alloc _).alloc _).alloc _).alloc _).alloc _).alloc _).alloc _; simp; done) | (refine (((((((((((BoxIs.at ?_).alloc _).alloc _).alloc _).alloc _).alloc _).alloc _).alloc _).alloc _).alloc _).alloc _).alloc _; simp; done)), sR.ext (by (repeat' (with_reducible first | assumption | exact Ext.refl _ | refine Ext.alloc ?_ _ | refine Ext.drew ?_ | refine Ext.drewN ?_ _ | (refine Ext.setCell ?_ (by first | (simp; done) | (simp; omega) | omega) _) | refine Ext.trans ?_ (by assumption))))⟩ (hS.below (by (repeat' (with_reducible first | assumption | exact Ext.refl _ | refine Ext.alloc ?_ _ | refine Ext.drew ?_ | refine Ext.drewN ?_ _ | (refine Ext.setCell ?_ (by first | (simp; done) | (simp; omega) | omega) _) | refine Ext.trans ?_ (by assumption))))), by (repeat' (with_reducible first | assumption | exact Ext.refl _ | refine Ext.alloc ?_ _ | refine Ext.drew ?_ | refine Ext.drewN ?_ _ | (refine Ext.setCell ?_ (by first | (simp; done) | (simp; omega) | omega) _) | refine Ext.trans ?_ (by assumption)))⟩ ?_
  clear hS hE sR kR gA qa0 qa1 qa2 qa3
  generalize uR.heap.size = b7 at *
  rintro W6 ⟨hS, hE⟩
  obtain ⟨hA_8, cA_8, gA⟩ := hS.at 1 rfl
  have qa0 := (gA.box.cells 0).1
  have qa1 := (gA.box.cells 1).1
  have qa2 := (gA.box.cells 2).1
  have qa3 := (gA.box.cells 3).1
  have hfin : (validB cu && decide (cu.cycle = [])) = true := by
    rw [(validB_iff cu).2 (Scu.out.valid (by omega)), decide_eq_true (fin_cycle Scu.out.wf (b := to) fun n hn => ((Qcu.out.mem n).1 hn).2.2)]; rfl
  have HFIN := Lib.hid hfin
  clear hfin
  go_upto_region 10 with (go_at_call 29; refine (finite_any hA_8 cA_8 cu _ (gA.is.ext (by (repeat' (with_reducible first | assumption | exact Ext.refl _ | refine Ext.alloc ?_ _ | refine Ext.drew ?_ | refine Ext.drewN ?_ _ | (refine Ext.setCell ?_ (by first | (simp; done) | (simp; omega) | omega) _) | refine Ext.trans ?_ (by assumption)))))).mono ?_; rintro e uE ⟨he, kE⟩; rw [HFIN.out] at he; subst he)
  refine wp_abs (F := fun U => Sets U [(b7, tl), (b6, cu), (b3, y), (b2, x)] ∧ Below w.heap.size w U) ⟨hS.below (by (repeat' (with_reducible first | assumption | exact Ext.refl _ | refine Ext.alloc ?_ _ | refine Ext.drew ?_ | refine Ext.drewN ?_ _ | (refine Ext.setCell ?_ (by first | (simp; done) | (simp; omega) | omega) _) | refine Ext.trans ?_ (by assumption)))), by (repeat' (with_reducible first | assumption | exact Ext.refl _ | refine Ext.alloc ?_ _ | refine Ext.drew ?_ | refine Ext.drewN ?_ _ | (refine Ext.setCell ?_ (by first | (simp; done) | (simp; omega) | omega) _) | refine Ext.trans ?_ (by assumption)))⟩ ?_
  clear hS hE kE gA qa0 qa1 qa2 qa3
  rintro W7 ⟨hS, hE⟩
  obtain ⟨hA_11, cA_11, gA⟩ := hS.at 3 rfl
  have qa0 := (gA.box.cells 0).1
  have qa1 := (gA.box.cells 1).1
  have qa2 := (gA.box.cells 2).1
  have qa3 := (gA.box.cells 3).1
  go_upto_region 12 with (go_at_call 26; refine (next_ok hA_11 cA_11 x fr _ (gA.is.ext (by (repeat' (with_reducible first | assumption | exact Ext.refl _ | refine Ext.alloc ?_ _ | refine Ext.drew ?_ | refine Ext.drewN ?_ _ | (refine Ext.setCell ?_ (by first | (simp; done) | (simp; omega) | omega) _) | refine Ext.trans ?_ (by assumption))))) (Sx.out.valid (by omega)) (by omega) (by omega)).mono ?_; rintro e uN ⟨nn, nb, rfl, hN, kN⟩)
  rw [show max fr 0 = fr from by omega] at hN
  refine wp_abs (F := fun U => Sets U [(b7, tl), (b6, cu), (b3, y), (b2, x)] ∧ Below w.heap.size w U) ⟨hS.below (by (repeat' (with_reducible first | assumption | exact Ext.refl _ | refine Ext.alloc ?_ _ | refine Ext.drew ?_ | refine Ext.drewN ?_ _ | (refine Ext.setCell ?_ (by first | (simp; done) | (simp; omega) | omega) _) | refine Ext.trans ?_ (by assumption)))), by (repeat' (with_reducible first | assumption | exact Ext.refl _ | refine Ext.alloc ?_ _ | refine Ext.drew ?_ | refine Ext.drewN ?_ _ | (refine Ext.setCell ?_ (by first | (simp; done) | (simp; omega) | omega) _) | refine Ext.trans ?_ (by assumption)))⟩ ?_
  clear hS hE kN gA qa0 qa1 qa2 qa3
  rintro W8 ⟨hS, hE⟩
  have HN := Lib.hid hN
  have HS := Lib.hid hS
  have HE := Lib.hid hE
  clear hN hS hE
  go_wp2_with fail
  go_loopw [16, 17, 18, 19] (fun vn va vo vd wr => ∃ (D n at_ : Int) (ok : Bool), fr ≤ D ∧ D ≤ to ∧ vd = .int .i64 D ∧ vn = .int .i64 n ∧ va = .int .i64 at_ ∧ vo = .bool ok ∧ n = belowI x D - belowI x fr ∧ NextIs x.mem D at_ ok ∧ Below W8.heap.size W8 wr) (fun _ _ _ d _ => (to - intOf d).toNat)
  case atStart => exact ⟨fr, 0, nn, nb, by omega, by omega, rfl, rfl, rfl, rfl, by omega, HN.out, Below.refl _ _⟩
  case round =>
    obtain ⟨D, n, at_, ok, hD0, hD1, rfl, rfl, rfl, rfl, hn, hN, hb⟩ := hrel
    have HB := Lib.hid hb
    have HN' := Lib.hid hN
    have HNN := Lib.hid hn
    clear hb hN hn
    by_cases hlt : D < to
    · have hS := HS.out.below HB.out
      obtain ⟨P, hP⟩ : ∃ P, P = memB x D := ⟨_, rfl⟩
      have hPm : P = true ↔ x.mem D := by rw [hP, memB_iff (by omega)]
      have HX : Hid ((validB x && decide (0 ≤ D) && memB x D) = P) := Lib.hid (by rw [(validB_iff x).2 (Sx.out.valid (by omega)), decide_eq_true (show 0 ≤ D by omega), hP]; rfl)
      have HC : Hid ((validB cu && decide (0 ≤ D) && memB cu D) = P) := Lib.hid (by
        rw [(validB_iff cu).2 (Scu.out.valid (by omega)), decide_eq_true (show 0 ≤ D by omega), Bool.eq_iff_iff, hPm]
        show memB cu D = true ↔ _
        rw [memB_iff (by omega), Qcu.out.mem]; exact ⟨fun h => h.1, fun h => ⟨h, by omega, by omega⟩⟩)
      have HT : Hid ((validB tl && decide (0 ≤ D) && memB tl D) = P) := Lib.hid (by
        rw [(validB_iff tl).2 (Stl.out.valid (by omega)), decide_eq_true (show 0 ≤ D by omega), Bool.eq_iff_iff, hPm]
        show memB tl D = true ↔ _
        rw [memB_iff (by omega), Qtl.out.mem]; exact ⟨fun h => h.1, fun h => ⟨h, by omega⟩⟩)
      have hst := belowI_step Sx.out.wf (n := D) (by omega)
      cases ok
      · have hno : ¬ x.mem D := next_none HN'.out (Int.le_refl _)
        have HNX : Hid (NextIs x.mem (D + 1) at_ false) := Lib.hid (HN'.out.skip hno)
        have HST : Hid (belowI x (D + 1) = belowI x D) := Lib.hid (by rw [hst, if_neg hno]; omega)
        obtain rfl : P = false := by
          cases P
          · rfl
          · exact absurd (hPm.1 rfl) hno
        clear hP hPm hst hno
        go_wp2_with fail
        refine wp_region_factsS (w0 := wr) [0, 1, 2, 3, 4, 5, 6, 7, 8, 9, 10, 11, 12, 13, 14, 15, 16, 17, 18, 19, 20, 21, 22, 23, 24, 25, 26, 27] [] (fun v => ⟨#[Value.agg #[Value.slice a1a hla.length c1a, Value.int IntKind.u8 fa, Value.int IntKind.u8 ta, Value.slice a2a cla.length c2a], Value.agg #[Value.slice a1b hlb.length c1b, Value.int IntKind.u8 fb, Value.int IntKind.u8 tb, Value.slice a2b clb.length c2b], Value.agg #[Value.int IntKind.u8 w0, Value.int IntKind.u8 w1], Value.pointer (some { block := w.heap.size, off := 0 }), Value.pointer (some { block := w.heap.size + 1, off := 0 }), Value.pointer (some { block := w.heap.size + 1 + 1, off := 0 }), u6, Value.bool true, Value.pointer (some { block := b2, off := 0 }), Value.pointer (some { block := b3, off := 0 }), Value.int IntKind.i64 fr, Value.int IntKind.i64 to, Value.pointer (some { block := b6, off := 0 }), Value.int IntKind.i64 0, Value.pointer (some { block := b7, off := 0 }), Value.int IntKind.i64 0, Value.int IntKind.i64 n, Value.int IntKind.i64 at_, Value.bool false, Value.int IntKind.i64 D, undef, undef, undef, undef, undef, undef, undef, undef, undef, undef, undef, undef, undef, undef, undef, undef, Value.bool true, Value.agg #[Value.slice a1a hla.length c1a, Value.int IntKind.u8 fa, Value.int IntKind.u8 ta, Value.slice a2a cla.length c2a], perV (Value.slice x1_2 x.head.length y1_2) (Value.slice x2_2 x.cycle.length y2_2) x.frm x.period, Value.agg #[Value.slice a1b hlb.length c1b, Value.int IntKind.u8 fb, Value.int IntKind.u8 tb, Value.slice a2b clb.length c2b], perV (Value.slice x1_3 y.head.length y1_3) (Value.slice x2_3 y.cycle.length y2_3) y.frm y.period, Value.pointer (some { block := w.heap.size + 1 + 1, off := 0 }), Value.int IntKind.u8 w0, Value.int IntKind.i64 w0, Value.int IntKind.i64 fr, Value.int IntKind.i64 fr, Value.pointer (some { block := w.heap.size + 1 + 1, off := 1 }), Value.int IntKind.u8 w1, Value.int IntKind.i64 w1, Value.int IntKind.i64 sz, Value.int IntKind.i64 to, Value.tuple #[perV (Value.slice x1_6 cu.head.length y1_6) (Value.slice x2_6 cu.cycle.length y2_6) cu.frm cu.period, Value.int IntKind.i64 0], Value.agg #[hA_6, Value.int IntKind.i64 x.frm, Value.int IntKind.i64 x.period, cA_6], Value.int IntKind.i64 fr, Value.int IntKind.i64 to, Value.tuple #[perV (Value.slice x1_6 cu.head.length y1_6) (Value.slice x2_6 cu.cycle.length y2_6) cu.frm cu.period, Value.int IntKind.i64 0], perV (Value.slice x1_6 cu.head.length y1_6) (Value.slice x2_6 cu.cycle.length y2_6) cu.frm cu.period, Value.int IntKind.i64 0, Value.tuple #[perV (Value.slice x1_7 tl.head.length y1_7) (Value.slice x2_7 tl.cycle.length y2_7) tl.frm tl.period, Value.int IntKind.i64 0], Value.agg #[hA_7, Value.int IntKind.i64 x.frm, Value.int IntKind.i64 x.period, cA_7], Value.int IntKind.i64 fr, Value.tuple #[perV (Value.slice x1_7 tl.head.length y1_7) (Value.slice x2_7 tl.cycle.length y2_7) tl.frm tl.period, Value.int IntKind.i64 0], perV (Value.slice x1_7 tl.head.length y1_7) (Value.slice x2_7 tl.cycle.length y2_7) tl.frm tl.period, Value.int IntKind.i64 0, Value.int IntKind.i64 0, Value.bool false, Value.bool false, Value.int IntKind.i64 0, Value.bool false, Value.bool false, Value.bool false, Value.agg #[hA_8, Value.int IntKind.i64 cu.frm, Value.int IntKind.i64 cu.period, cA_8], Value.bool true, Value.bool false, Value.bool false, Value.tuple #[Value.int IntKind.i64 nn, Value.bool nb], Value.agg #[hA_11, Value.int IntKind.i64 x.frm, Value.int IntKind.i64 x.period, cA_11], Value.int IntKind.i64 fr, Value.tuple #[Value.int IntKind.i64 nn, Value.bool nb], Value.int IntKind.i64 nn, Value.bool nb, Value.int IntKind.i64 fr, Value.int IntKind.i64 D, Value.int IntKind.i64 to, Value.bool true, u85, u86, v 0, v 1, v 2, v 3, v 4, v 5, v 6, v 7, v 8, v 9, v 10, v 11, v 12, v 13, v 14, v 15, v 16, v 17, v 18, v 19, v 20, v 21, v 22, v 23, v 24, v 25, v 26, v 27, u115, u116, u117, u118, u119, u120, u121, u122, u123, u124, u125, u126, u127, u128, u129, undef, undef, undef, undef, undef, undef, undef, undef, undef, undef, undef, undef, undef, undef, undef, undef, undef, undef, undef, undef, undef, undef, undef, undef, undef, undef, undef, undef, undef, undef, undef, undef, undef, undef, undef, undef, undef, undef, undef, undef, undef, undef, undef, undef, undef, undef, undef, undef, undef, undef, undef, undef, undef, undef, undef, undef, undef, undef, undef, undef, undef, undef, undef, undef, undef, undef, undef, undef, undef, undef, undef, undef, undef, undef, undef, undef, undef, undef, undef, undef, undef, undef, undef, undef, undef, undef, undef, undef, undef, undef, undef, undef, undef, undef, undef, undef, undef, undef, undef, undef, undef, undef, undef, undef, undef, undef, undef, undef, undef, undef, undef, undef, undef, undef, undef, undef, undef, undef, undef, undef, undef, undef, undef, undef, undef, undef, undef, undef], []⟩) (fun j => match j with | 0 => u87 | 1 => u88 | 2 => u89 | 3 => u90 | 4 => u91 | 5 => u92 | 6 => u93 | 7 => u94 | 8 => u95 | 9 => u96 | 10 => u97 | 11 => u98 | 12 => u99 | 13 => u100 | 14 => u101 | 15 => u102 | 16 => u103 | 17 => u104 | 18 => u105 | 19 => u106 | 20 => u107 | 21 => u108 | 22 => u109 | 23 => u110 | 24 => u111 | 25 => u112 | 26 => u113 | 27 => u114 | _ => undef)
          (fun i v lo hi W => match i with
            | 0 => SetV W (v 0) x
            | 1 => v 1 = .int .i64 D
            | 2 => v 2 = .bool false
            | 3 => v 3 = .bool false
            | 4 => v 4 = .bool false
            | 5 => v 5 = undef
            | 6 => v 6 = undef
            | 7 => v 7 = undef
            | 8 => v 8 = .bool false
            | 9 => v 9 = .bool false
            | 10 => v 10 = .bool false
            | 11 => SetV W (v 11) cu
            | 12 => v 12 = .int .i64 D
            | 13 => v 13 = .bool false
            | 14 => SetV W (v 14) x
            | 15 => v 15 = .int .i64 D
            | 16 => v 16 = .bool false
            | 17 => v 17 = .bool false
            | 18 => v 18 = .bool false
            | 19 => v 19 = .bool false
            | 20 => SetV W (v 20) tl
            | 21 => v 21 = .int .i64 D
            | 22 => v 22 = .bool false
            | 23 => SetV W (v 23) x
            | 24 => v 24 = .int .i64 D
            | 25 => v 25 = .bool false
            | 26 => v 26 = .bool false
            | 27 => v 27 = .bool false
            | _ => True)
          (fun W => Sets W [(b7, tl), (b6, cu), (b3, y), (b2, x)]) rfl (by kernel_rfl) (by decide) rfl ?stab ?loc (fun W hb => hS.below hb) ?steps ?fin
        case stab =>
          rintro (_ | _ | _ | _ | _ | _ | _ | _ | _ | _ | _ | _ | _ | _ | _ | _ | _ | _ | _ | _ | _ | _ | _ | _ | _ | _ | _ | _ | i) v lo hi W W' h hb
          · exact h.below hb
          · exact h
          · exact h
          · exact h
          · exact h
          · exact h
          · exact h
          · exact h
          · exact h
          · exact h
          · exact h
          · exact h.below hb
          · exact h
          · exact h
          · exact h.below hb
          · exact h
          · exact h
          · exact h
          · exact h
          · exact h
          · exact h.below hb
          · exact h
          · exact h
          · exact h.below hb
          · exact h
          · exact h
          · exact h
          · exact h
          · trivial
        case loc =>
          rintro (_ | _ | _ | _ | _ | _ | _ | _ | _ | _ | _ | _ | _ | _ | _ | _ | _ | _ | _ | _ | _ | _ | _ | _ | _ | _ | _ | _ | i) v v' lo lo' hi hi' W hag h
          · have q := hag 0 (.inl rfl)
            (try dsimp only at h ⊢); (try simp only [q.1, q.2.1, q.2.2] at h); exact h
          · exact (hag 1 (.inl rfl)).1 ▸ h
          · exact (hag 2 (.inl rfl)).1 ▸ h
          · exact (hag 3 (.inl rfl)).1 ▸ h
          · exact (hag 4 (.inl rfl)).1 ▸ h
          · exact (hag 5 (.inl rfl)).1 ▸ h
          · exact (hag 6 (.inl rfl)).1 ▸ h
          · exact (hag 7 (.inl rfl)).1 ▸ h
          · exact (hag 8 (.inl rfl)).1 ▸ h
          · exact (hag 9 (.inl rfl)).1 ▸ h
          · exact (hag 10 (.inl rfl)).1 ▸ h
          · have q := hag 11 (.inl rfl)
            have q10 := hag 10 (.inr (Region.dep (by kernel_rfl)))
            (try dsimp only at h ⊢); (try simp only [q.1, q.2.1, q.2.2, q10.1, q10.2.1, q10.2.2] at h); exact h
          · exact (hag 12 (.inl rfl)).1 ▸ h
          · exact (hag 13 (.inl rfl)).1 ▸ h
          · have q := hag 14 (.inl rfl)
            have q10 := hag 10 (.inr (Region.dep (by kernel_rfl)))
            (try dsimp only at h ⊢); (try simp only [q.1, q.2.1, q.2.2, q10.1, q10.2.1, q10.2.2] at h); exact h
          · exact (hag 15 (.inl rfl)).1 ▸ h
          · exact (hag 16 (.inl rfl)).1 ▸ h
          · exact (hag 17 (.inl rfl)).1 ▸ h
          · exact (hag 18 (.inl rfl)).1 ▸ h
          · exact (hag 19 (.inl rfl)).1 ▸ h
          · have q := hag 20 (.inl rfl)
            have q19 := hag 19 (.inr (Region.dep (by kernel_rfl)))
            (try dsimp only at h ⊢); (try simp only [q.1, q.2.1, q.2.2, q19.1, q19.2.1, q19.2.2] at h); exact h
          · exact (hag 21 (.inl rfl)).1 ▸ h
          · exact (hag 22 (.inl rfl)).1 ▸ h
          · have q := hag 23 (.inl rfl)
            have q19 := hag 19 (.inr (Region.dep (by kernel_rfl)))
            (try dsimp only at h ⊢); (try simp only [q.1, q.2.1, q.2.2, q19.1, q19.2.1, q19.2.2] at h); exact h
          · exact (hag 24 (.inl rfl)).1 ▸ h
          · exact (hag 25 (.inl rfl)).1 ▸ h
          · exact (hag 26 (.inl rfl)).1 ▸ h
          · exact (hag 27 (.inl rfl)).1 ▸ h
          · trivial
        case steps =>
          refine StepsS.cons rfl ?_ (StepsS.cons rfl ?_ (StepsS.cons rfl ?_ (StepsS.cons rfl ?_ (StepsS.cons rfl ?_ (StepsS.cons rfl ?_ (StepsS.cons rfl ?_ (StepsS.cons rfl ?_ (StepsS.cons rfl ?_ (StepsS.cons rfl ?_ (StepsS.cons rfl ?_ (StepsS.cons rfl ?_ (StepsS.cons rfl ?_ (StepsS.cons rfl ?_ (StepsS.cons rfl ?_ (StepsS.cons rfl ?_ (StepsS.cons rfl ?_ (StepsS.cons rfl ?_ (StepsS.cons rfl ?_ (StepsS.cons rfl ?_ (StepsS.cons rfl ?_ (StepsS.cons rfl ?_ (StepsS.cons rfl ?_ (StepsS.cons rfl ?_ (StepsS.cons rfl ?_ (StepsS.cons rfl ?_ (StepsS.cons rfl ?_ (StepsS.cons rfl ?_ StepsS.nil)))))))))))))))))))))))))))
          · rintro v lo hi W hb hS hd
            clear hd
            refine .inl ⟨rfl, ?_⟩
            intro K hK
            dsimp only
            obtain ⟨h, c, g⟩ := hS.at 3 rfl
            have q0 := (g.box.cells 0).1
            have q1 := (g.box.cells 1).1
            have q2 := (g.box.cells 2).1
            have q3 := (g.box.cells 3).1
            go_wp2_with fail
            exact act_cast (hK (perV h c (x : Per).frm (x : Per).period) W (Below.refl _ _) ⟨h, c, rfl, g.is⟩) (by simp [ite_true])
          · rintro v lo hi W hb hS hd
            clear hd
            refine .inl ⟨rfl, ?_⟩
            intro K hK
            dsimp only
            go_wp2_with fail
            exact act_cast (hK (.int .i64 D) W (Below.refl _ _) rfl) (by simp)
          · rintro v lo hi W hb hS hd
            obtain ⟨la0, lb0, D0⟩ := hd 0 (Region.dep (by kernel_rfl))
            have e1 : v 1 = .int .i64 D := (hd 1 (Region.dep (by kernel_rfl))).2.2
            clear hd
            refine .inl ⟨rfl, ?_⟩
            intro K hK
            dsimp only
            (try simp only [e1])
            obtain ⟨h0, c0, e0, s0⟩ := D0
            simp only [e0]
            go_wp2_with (go_at_call 24; refine (has_any h0 c0 x D _ s0 ⟨by omega, by omega⟩ (by omega)).mono ?_; rintro e w9 ⟨he, hb9⟩; rw [HX.out] at he; subst he)
            exact act_cast (hK (.bool false) w9 hb9 rfl) (by simp [e1, e0])
          · rintro v lo hi W hb hS hd
            clear hd
            refine .inl ⟨rfl, ?_⟩
            intro K hK
            dsimp only
            go_wp2_with fail
            exact act_cast (hK (.bool false) W (Below.refl _ _) rfl) (by simp)
          · rintro v lo hi W hb hS hd
            have e3 : v 3 = .bool false := (hd 3 (Region.dep (by kernel_rfl))).2.2
            clear hd
            refine .inl ⟨rfl, ?_⟩
            intro K hK
            dsimp only
            (try simp only [e3])
            go_wp2_with fail
            exact act_cast (hK (.bool false) W (Below.refl _ _) rfl) (by simp [e3])
          · rintro v lo hi W hb hS hd
            have e4 : v 4 = .bool false := (hd 4 (Region.dep (by kernel_rfl))).2.2
            clear hd
            refine .inr ⟨(by show ((match some (v 4) with | some (Value.bool b) => some b | _ => none) == some true) = false; rw [e4]; rfl), ?_⟩
            intro K hK
            exact act_cast (hK undef W (Below.refl _ _) rfl) (by simp [Act.put])
          · rintro v lo hi W hb hS hd
            have e4 : v 4 = .bool false := (hd 4 (Region.dep (by kernel_rfl))).2.2
            clear hd
            refine .inr ⟨(by show ((match some (v 4) with | some (Value.bool b) => some b | _ => none) == some true) = false; rw [e4]; rfl), ?_⟩
            intro K hK
            exact act_cast (hK undef W (Below.refl _ _) rfl) (by simp [Act.put])
          · rintro v lo hi W hb hS hd
            have e4 : v 4 = .bool false := (hd 4 (Region.dep (by kernel_rfl))).2.2
            have e5 : v 5 = undef := (hd 5 (Region.dep (by kernel_rfl))).2.2
            have e6 : v 6 = undef := (hd 6 (Region.dep (by kernel_rfl))).2.2
            clear hd
            refine .inr ⟨(by show ((match some (v 4) with | some (Value.bool b) => some b | _ => none) == some true) = false; rw [e4]; rfl), ?_⟩
            intro K hK
            exact act_cast (hK undef W (Below.refl _ _) rfl) (by simp [Act.put])
          · rintro v lo hi W hb hS hd
            have e4 : v 4 = .bool false := (hd 4 (Region.dep (by kernel_rfl))).2.2
            have e7 : v 7 = undef := (hd 7 (Region.dep (by kernel_rfl))).2.2
            clear hd
            refine .inl ⟨rfl, ?_⟩
            intro K hK
            dsimp only
            (try simp only [e4, e7])
            go_wp2_with fail
            exact act_cast (hK (.bool false) W (Below.refl _ _) rfl) (by simp [e4, e7])
          · rintro v lo hi W hb hS hd
            have e2 : v 2 = .bool false := (hd 2 (Region.dep (by kernel_rfl))).2.2
            have e8 : v 8 = .bool false := (hd 8 (Region.dep (by kernel_rfl))).2.2
            clear hd
            refine .inl ⟨rfl, ?_⟩
            intro K hK
            dsimp only
            (try simp only [e2, e8])
            go_wp2_with fail
            exact act_cast (hK (.bool false) W (Below.refl _ _) rfl) (by simp [e2, e8])
          · rintro v lo hi W hb hS hd
            have e9 : v 9 = .bool false := (hd 9 (Region.dep (by kernel_rfl))).2.2
            clear hd
            refine .inl ⟨rfl, ?_⟩
            intro K hK
            dsimp only
            (try simp only [e9])
            go_wp2_with fail
            exact act_cast (hK (.bool false) W (Below.refl _ _) rfl) (by simp [e9])
          · rintro v lo hi W hb hS hd
            have e10 : v 10 = .bool false := (hd 10 (Region.dep (by kernel_rfl))).2.2
            clear hd
            refine .inl ⟨(by show ((match some (v 10) with | some (Value.bool b) => some b | _ => none) == some false) = true; rw [e10]; rfl), ?_⟩
            intro K hK
            dsimp only
            (try simp only [e10])
            obtain ⟨h, c, g⟩ := hS.at 1 rfl
            have q0 := (g.box.cells 0).1
            have q1 := (g.box.cells 1).1
            have q2 := (g.box.cells 2).1
            have q3 := (g.box.cells 3).1
            go_wp2_with fail
            exact act_cast (hK (perV h c (cu : Per).frm (cu : Per).period) W (Below.refl _ _) ⟨h, c, rfl, g.is⟩) (by simp [e10])
          · rintro v lo hi W hb hS hd
            have e10 : v 10 = .bool false := (hd 10 (Region.dep (by kernel_rfl))).2.2
            clear hd
            refine .inl ⟨(by show ((match some (v 10) with | some (Value.bool b) => some b | _ => none) == some false) = true; rw [e10]; rfl), ?_⟩
            intro K hK
            dsimp only
            (try simp only [e10])
            go_wp2_with fail
            exact act_cast (hK (.int .i64 D) W (Below.refl _ _) rfl) (by simp [e10])
          · rintro v lo hi W hb hS hd
            have e10 : v 10 = .bool false := (hd 10 (Region.dep (by kernel_rfl))).2.2
            obtain ⟨la11, lb11, D11⟩ := hd 11 (Region.dep (by kernel_rfl))
            have e12 : v 12 = .int .i64 D := (hd 12 (Region.dep (by kernel_rfl))).2.2
            clear hd
            refine .inl ⟨(by show ((match some (v 10) with | some (Value.bool b) => some b | _ => none) == some false) = true; rw [e10]; rfl), ?_⟩
            intro K hK
            dsimp only
            (try simp only [e10, e12])
            obtain ⟨h0, c0, e0, s0⟩ := D11
            simp only [e0]
            go_wp2_with (go_at_call 24; refine (has_any h0 c0 cu D _ s0 ⟨by omega, by omega⟩ (by omega)).mono ?_; rintro e w9 ⟨he, hb9⟩; rw [HC.out] at he; subst he)
            exact act_cast (hK (.bool false) w9 hb9 rfl) (by simp [e10, e12, e0])
          · rintro v lo hi W hb hS hd
            have e10 : v 10 = .bool false := (hd 10 (Region.dep (by kernel_rfl))).2.2
            clear hd
            refine .inl ⟨(by show ((match some (v 10) with | some (Value.bool b) => some b | _ => none) == some false) = true; rw [e10]; rfl), ?_⟩
            intro K hK
            dsimp only
            (try simp only [e10])
            obtain ⟨h, c, g⟩ := hS.at 3 rfl
            have q0 := (g.box.cells 0).1
            have q1 := (g.box.cells 1).1
            have q2 := (g.box.cells 2).1
            have q3 := (g.box.cells 3).1
            go_wp2_with fail
            exact act_cast (hK (perV h c (x : Per).frm (x : Per).period) W (Below.refl _ _) ⟨h, c, rfl, g.is⟩) (by simp [e10])
          · rintro v lo hi W hb hS hd
            have e10 : v 10 = .bool false := (hd 10 (Region.dep (by kernel_rfl))).2.2
            clear hd
            refine .inl ⟨(by show ((match some (v 10) with | some (Value.bool b) => some b | _ => none) == some false) = true; rw [e10]; rfl), ?_⟩
            intro K hK
            dsimp only
            (try simp only [e10])
            go_wp2_with fail
            exact act_cast (hK (.int .i64 D) W (Below.refl _ _) rfl) (by simp [e10])
          · rintro v lo hi W hb hS hd
            have e10 : v 10 = .bool false := (hd 10 (Region.dep (by kernel_rfl))).2.2
            obtain ⟨la14, lb14, D14⟩ := hd 14 (Region.dep (by kernel_rfl))
            have e15 : v 15 = .int .i64 D := (hd 15 (Region.dep (by kernel_rfl))).2.2
            clear hd
            refine .inl ⟨(by show ((match some (v 10) with | some (Value.bool b) => some b | _ => none) == some false) = true; rw [e10]; rfl), ?_⟩
            intro K hK
            dsimp only
            (try simp only [e10, e15])
            obtain ⟨h0, c0, e0, s0⟩ := D14
            simp only [e0]
            go_wp2_with (go_at_call 24; refine (has_any h0 c0 x D _ s0 ⟨by omega, by omega⟩ (by omega)).mono ?_; rintro e w9 ⟨he, hb9⟩; rw [HX.out] at he; subst he)
            exact act_cast (hK (.bool false) w9 hb9 rfl) (by simp [e10, e15, e0])
          · rintro v lo hi W hb hS hd
            have e10 : v 10 = .bool false := (hd 10 (Region.dep (by kernel_rfl))).2.2
            have e13 : v 13 = .bool false := (hd 13 (Region.dep (by kernel_rfl))).2.2
            have e16 : v 16 = .bool false := (hd 16 (Region.dep (by kernel_rfl))).2.2
            clear hd
            refine .inl ⟨(by show ((match some (v 10) with | some (Value.bool b) => some b | _ => none) == some false) = true; rw [e10]; rfl), ?_⟩
            intro K hK
            dsimp only
            (try simp only [e10, e13, e16])
            go_wp2_with fail
            exact act_cast (hK (.bool false) W (Below.refl _ _) rfl) (by simp [e10, e13, e16])
          · rintro v lo hi W hb hS hd
            have e10 : v 10 = .bool false := (hd 10 (Region.dep (by kernel_rfl))).2.2
            have e17 : v 17 = .bool false := (hd 17 (Region.dep (by kernel_rfl))).2.2
            clear hd
            refine .inl ⟨rfl, ?_⟩
            intro K hK
            dsimp only
            (try simp only [e10, e17])
            go_wp2_with fail
            exact act_cast (hK (.bool false) W (Below.refl _ _) rfl) (by simp [e10, e17])
          · rintro v lo hi W hb hS hd
            have e18 : v 18 = .bool false := (hd 18 (Region.dep (by kernel_rfl))).2.2
            clear hd
            refine .inl ⟨rfl, ?_⟩
            intro K hK
            dsimp only
            (try simp only [e18])
            go_wp2_with fail
            exact act_cast (hK (.bool false) W (Below.refl _ _) rfl) (by simp [e18])
          · rintro v lo hi W hb hS hd
            have e19 : v 19 = .bool false := (hd 19 (Region.dep (by kernel_rfl))).2.2
            clear hd
            refine .inl ⟨(by show ((match some (v 19) with | some (Value.bool b) => some b | _ => none) == some false) = true; rw [e19]; rfl), ?_⟩
            intro K hK
            dsimp only
            (try simp only [e19])
            obtain ⟨h, c, g⟩ := hS.at 0 rfl
            have q0 := (g.box.cells 0).1
            have q1 := (g.box.cells 1).1
            have q2 := (g.box.cells 2).1
            have q3 := (g.box.cells 3).1
            go_wp2_with fail
            exact act_cast (hK (perV h c (tl : Per).frm (tl : Per).period) W (Below.refl _ _) ⟨h, c, rfl, g.is⟩) (by simp [e19])
          · rintro v lo hi W hb hS hd
            have e19 : v 19 = .bool false := (hd 19 (Region.dep (by kernel_rfl))).2.2
            clear hd
            refine .inl ⟨(by show ((match some (v 19) with | some (Value.bool b) => some b | _ => none) == some false) = true; rw [e19]; rfl), ?_⟩
            intro K hK
            dsimp only
            (try simp only [e19])
            go_wp2_with fail
            exact act_cast (hK (.int .i64 D) W (Below.refl _ _) rfl) (by simp [e19])
          · rintro v lo hi W hb hS hd
            have e19 : v 19 = .bool false := (hd 19 (Region.dep (by kernel_rfl))).2.2
            obtain ⟨la20, lb20, D20⟩ := hd 20 (Region.dep (by kernel_rfl))
            have e21 : v 21 = .int .i64 D := (hd 21 (Region.dep (by kernel_rfl))).2.2
            clear hd
            refine .inl ⟨(by show ((match some (v 19) with | some (Value.bool b) => some b | _ => none) == some false) = true; rw [e19]; rfl), ?_⟩
            intro K hK
            dsimp only
            (try simp only [e19, e21])
            obtain ⟨h0, c0, e0, s0⟩ := D20
            simp only [e0]
            go_wp2_with (go_at_call 24; refine (has_any h0 c0 tl D _ s0 ⟨by omega, by omega⟩ (by omega)).mono ?_; rintro e w9 ⟨he, hb9⟩; rw [HT.out] at he; subst he)
            exact act_cast (hK (.bool false) w9 hb9 rfl) (by simp [e19, e21, e0])
          · rintro v lo hi W hb hS hd
            have e19 : v 19 = .bool false := (hd 19 (Region.dep (by kernel_rfl))).2.2
            clear hd
            refine .inl ⟨(by show ((match some (v 19) with | some (Value.bool b) => some b | _ => none) == some false) = true; rw [e19]; rfl), ?_⟩
            intro K hK
            dsimp only
            (try simp only [e19])
            obtain ⟨h, c, g⟩ := hS.at 3 rfl
            have q0 := (g.box.cells 0).1
            have q1 := (g.box.cells 1).1
            have q2 := (g.box.cells 2).1
            have q3 := (g.box.cells 3).1
            go_wp2_with fail
            exact act_cast (hK (perV h c (x : Per).frm (x : Per).period) W (Below.refl _ _) ⟨h, c, rfl, g.is⟩) (by simp [e19])
          · rintro v lo hi W hb hS hd
            have e19 : v 19 = .bool false := (hd 19 (Region.dep (by kernel_rfl))).2.2
            clear hd
            refine .inl ⟨(by show ((match some (v 19) with | some (Value.bool b) => some b | _ => none) == some false) = true; rw [e19]; rfl), ?_⟩
            intro K hK
            dsimp only
            (try simp only [e19])
            go_wp2_with fail
            exact act_cast (hK (.int .i64 D) W (Below.refl _ _) rfl) (by simp [e19])
          · rintro v lo hi W hb hS hd
            have e19 : v 19 = .bool false := (hd 19 (Region.dep (by kernel_rfl))).2.2
            obtain ⟨la23, lb23, D23⟩ := hd 23 (Region.dep (by kernel_rfl))
            have e24 : v 24 = .int .i64 D := (hd 24 (Region.dep (by kernel_rfl))).2.2
            clear hd
            refine .inl ⟨(by show ((match some (v 19) with | some (Value.bool b) => some b | _ => none) == some false) = true; rw [e19]; rfl), ?_⟩
            intro K hK
            dsimp only
            (try simp only [e19, e24])
            obtain ⟨h0, c0, e0, s0⟩ := D23
            simp only [e0]
            go_wp2_with (go_at_call 24; refine (has_any h0 c0 x D _ s0 ⟨by omega, by omega⟩ (by omega)).mono ?_; rintro e w9 ⟨he, hb9⟩; rw [HX.out] at he; subst he)
            exact act_cast (hK (.bool false) w9 hb9 rfl) (by simp [e19, e24, e0])
          · rintro v lo hi W hb hS hd
            have e19 : v 19 = .bool false := (hd 19 (Region.dep (by kernel_rfl))).2.2
            have e22 : v 22 = .bool false := (hd 22 (Region.dep (by kernel_rfl))).2.2
            have e25 : v 25 = .bool false := (hd 25 (Region.dep (by kernel_rfl))).2.2
            clear hd
            refine .inl ⟨(by show ((match some (v 19) with | some (Value.bool b) => some b | _ => none) == some false) = true; rw [e19]; rfl), ?_⟩
            intro K hK
            dsimp only
            (try simp only [e19, e22, e25])
            go_wp2_with fail
            exact act_cast (hK (.bool false) W (Below.refl _ _) rfl) (by simp [e19, e22, e25])
          · rintro v lo hi W hb hS hd
            have e19 : v 19 = .bool false := (hd 19 (Region.dep (by kernel_rfl))).2.2
            have e26 : v 26 = .bool false := (hd 26 (Region.dep (by kernel_rfl))).2.2
            clear hd
            refine .inl ⟨rfl, ?_⟩
            intro K hK
            dsimp only
            (try simp only [e19, e26])
            go_wp2_with fail
            exact act_cast (hK (.bool false) W (Below.refl _ _) rfl) (by simp [e19, e26])
        case fin =>
          rintro v lo hi W2 hb2 _ hf _
          show wpList _ _ _ [] _ _
          have f27 : v 27 = .bool false := (hf 27 rfl).2.2.2
          clear hf
          dsimp only
          rw [f27]
          clear f27
          generalize v 0 = x0
          generalize v 1 = x1
          generalize v 2 = x2
          generalize v 3 = x3
          generalize v 4 = x4
          generalize v 5 = x5
          generalize v 6 = x6
          generalize v 7 = x7
          generalize v 8 = x8
          generalize v 9 = x9
          generalize v 10 = x10
          generalize v 11 = x11
          generalize v 12 = x12
          generalize v 13 = x13
          generalize v 14 = x14
          generalize v 15 = x15
          generalize v 16 = x16
          generalize v 17 = x17
          generalize v 18 = x18
          generalize v 19 = x19
          generalize v 20 = x20
          generalize v 21 = x21
          generalize v 22 = x22
          generalize v 23 = x23
          generalize v 24 = x24
          generalize v 25 = x25
          generalize v 26 = x26
          go_wp2_with fail
          go_roundw
          case rel => exact ⟨D + 1, n, at_, false, by omega, by omega, rfl, rfl, rfl, rfl, by rw [HST.out]; exact HNN.out, HNX.out, by have hb := HB.out; (repeat' (with_reducible first | assumption | exact Ext.refl _ | refine Ext.alloc ?_ _ | refine Ext.drew ?_ | refine Ext.drewN ?_ _ | (refine Ext.setCell ?_ (by first | (simp; done) | (simp; omega) | omega) _) | refine Ext.trans ?_ (by assumption)))⟩
          case measure => simp [intOf]; omega
      · by_cases hat : at_ = D
        · have hyes : x.mem D := by have := HN'.out.mem; rwa [hat] at this
          have HST : Hid (belowI x (D + 1) = belowI x D + 1) := Lib.hid (by rw [hst, if_pos hyes])
          obtain rfl : P = true := hPm.2 hyes
          have hae : (at_ == D) = true := by simp [hat]
          have hbb := belowI_le Sx.out.wf (n := D) (by omega)
          have hbf := belowI_le Sx.out.wf (n := fr) (by omega)
          have hn0 : -180 ≤ n ∧ n ≤ 180 := by have := HNN.out; omega
          clear hP hPm hst hyes hbb hbf hat
          go_wp2_with fail
          refine wp_region_factsS (w0 := wr) [0, 1, 2, 3, 4, 5, 6, 7, 8, 9, 10, 11, 12, 13, 14, 15, 16, 17, 18, 19, 20, 21, 22, 23, 24, 25, 26, 27] [] (fun v => ⟨#[Value.agg #[Value.slice a1a hla.length c1a, Value.int IntKind.u8 fa, Value.int IntKind.u8 ta, Value.slice a2a cla.length c2a], Value.agg #[Value.slice a1b hlb.length c1b, Value.int IntKind.u8 fb, Value.int IntKind.u8 tb, Value.slice a2b clb.length c2b], Value.agg #[Value.int IntKind.u8 w0, Value.int IntKind.u8 w1], Value.pointer (some { block := w.heap.size, off := 0 }), Value.pointer (some { block := w.heap.size + 1, off := 0 }), Value.pointer (some { block := w.heap.size + 1 + 1, off := 0 }), u6, Value.bool true, Value.pointer (some { block := b2, off := 0 }), Value.pointer (some { block := b3, off := 0 }), Value.int IntKind.i64 fr, Value.int IntKind.i64 to, Value.pointer (some { block := b6, off := 0 }), Value.int IntKind.i64 0, Value.pointer (some { block := b7, off := 0 }), Value.int IntKind.i64 0, Value.int IntKind.i64 n, Value.int IntKind.i64 at_, Value.bool true, Value.int IntKind.i64 D, undef, undef, undef, undef, undef, undef, undef, undef, undef, undef, undef, undef, undef, undef, undef, undef, Value.bool true, Value.agg #[Value.slice a1a hla.length c1a, Value.int IntKind.u8 fa, Value.int IntKind.u8 ta, Value.slice a2a cla.length c2a], perV (Value.slice x1_2 x.head.length y1_2) (Value.slice x2_2 x.cycle.length y2_2) x.frm x.period, Value.agg #[Value.slice a1b hlb.length c1b, Value.int IntKind.u8 fb, Value.int IntKind.u8 tb, Value.slice a2b clb.length c2b], perV (Value.slice x1_3 y.head.length y1_3) (Value.slice x2_3 y.cycle.length y2_3) y.frm y.period, Value.pointer (some { block := w.heap.size + 1 + 1, off := 0 }), Value.int IntKind.u8 w0, Value.int IntKind.i64 w0, Value.int IntKind.i64 fr, Value.int IntKind.i64 fr, Value.pointer (some { block := w.heap.size + 1 + 1, off := 1 }), Value.int IntKind.u8 w1, Value.int IntKind.i64 w1, Value.int IntKind.i64 sz, Value.int IntKind.i64 to, Value.tuple #[perV (Value.slice x1_6 cu.head.length y1_6) (Value.slice x2_6 cu.cycle.length y2_6) cu.frm cu.period, Value.int IntKind.i64 0], Value.agg #[hA_6, Value.int IntKind.i64 x.frm, Value.int IntKind.i64 x.period, cA_6], Value.int IntKind.i64 fr, Value.int IntKind.i64 to, Value.tuple #[perV (Value.slice x1_6 cu.head.length y1_6) (Value.slice x2_6 cu.cycle.length y2_6) cu.frm cu.period, Value.int IntKind.i64 0], perV (Value.slice x1_6 cu.head.length y1_6) (Value.slice x2_6 cu.cycle.length y2_6) cu.frm cu.period, Value.int IntKind.i64 0, Value.tuple #[perV (Value.slice x1_7 tl.head.length y1_7) (Value.slice x2_7 tl.cycle.length y2_7) tl.frm tl.period, Value.int IntKind.i64 0], Value.agg #[hA_7, Value.int IntKind.i64 x.frm, Value.int IntKind.i64 x.period, cA_7], Value.int IntKind.i64 fr, Value.tuple #[perV (Value.slice x1_7 tl.head.length y1_7) (Value.slice x2_7 tl.cycle.length y2_7) tl.frm tl.period, Value.int IntKind.i64 0], perV (Value.slice x1_7 tl.head.length y1_7) (Value.slice x2_7 tl.cycle.length y2_7) tl.frm tl.period, Value.int IntKind.i64 0, Value.int IntKind.i64 0, Value.bool false, Value.bool false, Value.int IntKind.i64 0, Value.bool false, Value.bool false, Value.bool false, Value.agg #[hA_8, Value.int IntKind.i64 cu.frm, Value.int IntKind.i64 cu.period, cA_8], Value.bool true, Value.bool false, Value.bool false, Value.tuple #[Value.int IntKind.i64 nn, Value.bool nb], Value.agg #[hA_11, Value.int IntKind.i64 x.frm, Value.int IntKind.i64 x.period, cA_11], Value.int IntKind.i64 fr, Value.tuple #[Value.int IntKind.i64 nn, Value.bool nb], Value.int IntKind.i64 nn, Value.bool nb, Value.int IntKind.i64 fr, Value.int IntKind.i64 D, Value.int IntKind.i64 to, Value.bool true, u85, u86, v 0, v 1, v 2, v 3, v 4, v 5, v 6, v 7, v 8, v 9, v 10, v 11, v 12, v 13, v 14, v 15, v 16, v 17, v 18, v 19, v 20, v 21, v 22, v 23, v 24, v 25, v 26, v 27, u115, u116, u117, u118, u119, u120, u121, u122, u123, u124, u125, u126, u127, u128, u129, undef, undef, undef, undef, undef, undef, undef, undef, undef, undef, undef, undef, undef, undef, undef, undef, undef, undef, undef, undef, undef, undef, undef, undef, undef, undef, undef, undef, undef, undef, undef, undef, undef, undef, undef, undef, undef, undef, undef, undef, undef, undef, undef, undef, undef, undef, undef, undef, undef, undef, undef, undef, undef, undef, undef, undef, undef, undef, undef, undef, undef, undef, undef, undef, undef, undef, undef, undef, undef, undef, undef, undef, undef, undef, undef, undef, undef, undef, undef, undef, undef, undef, undef, undef, undef, undef, undef, undef, undef, undef, undef, undef, undef, undef, undef, undef, undef, undef, undef, undef, undef, undef, undef, undef, undef, undef, undef, undef, undef, undef, undef, undef, undef, undef, undef, undef, undef, undef, undef, undef, undef, undef, undef, undef, undef, undef, undef, undef], []⟩) (fun j => match j with | 0 => u87 | 1 => u88 | 2 => u89 | 3 => u90 | 4 => u91 | 5 => u92 | 6 => u93 | 7 => u94 | 8 => u95 | 9 => u96 | 10 => u97 | 11 => u98 | 12 => u99 | 13 => u100 | 14 => u101 | 15 => u102 | 16 => u103 | 17 => u104 | 18 => u105 | 19 => u106 | 20 => u107 | 21 => u108 | 22 => u109 | 23 => u110 | 24 => u111 | 25 => u112 | 26 => u113 | 27 => u114 | _ => undef)
            (fun i v lo hi W => match i with
              | 0 => SetV W (v 0) x
              | 1 => v 1 = .int .i64 D
              | 2 => v 2 = .bool true
              | 3 => v 3 = .bool true
              | 4 => v 4 = .bool true
              | 5 => v 5 = .int .i64 at_
              | 6 => v 6 = .int .i64 D
              | 7 => v 7 = .bool true
              | 8 => v 8 = .bool true
              | 9 => v 9 = .bool false
              | 10 => v 10 = .bool false
              | 11 => SetV W (v 11) cu
              | 12 => v 12 = .int .i64 D
              | 13 => v 13 = .bool true
              | 14 => SetV W (v 14) x
              | 15 => v 15 = .int .i64 D
              | 16 => v 16 = .bool true
              | 17 => v 17 = .bool false
              | 18 => v 18 = .bool false
              | 19 => v 19 = .bool false
              | 20 => SetV W (v 20) tl
              | 21 => v 21 = .int .i64 D
              | 22 => v 22 = .bool true
              | 23 => SetV W (v 23) x
              | 24 => v 24 = .int .i64 D
              | 25 => v 25 = .bool true
              | 26 => v 26 = .bool false
              | 27 => v 27 = .bool false
              | _ => True)
            (fun W => Sets W [(b7, tl), (b6, cu), (b3, y), (b2, x)]) rfl (by kernel_rfl) (by decide) rfl ?stab ?loc (fun W hb => hS.below hb) ?steps ?fin
          case stab =>
            rintro (_ | _ | _ | _ | _ | _ | _ | _ | _ | _ | _ | _ | _ | _ | _ | _ | _ | _ | _ | _ | _ | _ | _ | _ | _ | _ | _ | _ | i) v lo hi W W' h hb
            · exact h.below hb
            · exact h
            · exact h
            · exact h
            · exact h
            · exact h
            · exact h
            · exact h
            · exact h
            · exact h
            · exact h
            · exact h.below hb
            · exact h
            · exact h
            · exact h.below hb
            · exact h
            · exact h
            · exact h
            · exact h
            · exact h
            · exact h.below hb
            · exact h
            · exact h
            · exact h.below hb
            · exact h
            · exact h
            · exact h
            · exact h
            · trivial
          case loc =>
            rintro (_ | _ | _ | _ | _ | _ | _ | _ | _ | _ | _ | _ | _ | _ | _ | _ | _ | _ | _ | _ | _ | _ | _ | _ | _ | _ | _ | _ | i) v v' lo lo' hi hi' W hag h
            · have q := hag 0 (.inl rfl)
              (try dsimp only at h ⊢); (try simp only [q.1, q.2.1, q.2.2] at h); exact h
            · exact (hag 1 (.inl rfl)).1 ▸ h
            · exact (hag 2 (.inl rfl)).1 ▸ h
            · exact (hag 3 (.inl rfl)).1 ▸ h
            · exact (hag 4 (.inl rfl)).1 ▸ h
            · exact (hag 5 (.inl rfl)).1 ▸ h
            · exact (hag 6 (.inl rfl)).1 ▸ h
            · exact (hag 7 (.inl rfl)).1 ▸ h
            · exact (hag 8 (.inl rfl)).1 ▸ h
            · exact (hag 9 (.inl rfl)).1 ▸ h
            · exact (hag 10 (.inl rfl)).1 ▸ h
            · have q := hag 11 (.inl rfl)
              have q10 := hag 10 (.inr (Region.dep (by kernel_rfl)))
              (try dsimp only at h ⊢); (try simp only [q.1, q.2.1, q.2.2, q10.1, q10.2.1, q10.2.2] at h); exact h
            · exact (hag 12 (.inl rfl)).1 ▸ h
            · exact (hag 13 (.inl rfl)).1 ▸ h
            · have q := hag 14 (.inl rfl)
              have q10 := hag 10 (.inr (Region.dep (by kernel_rfl)))
              (try dsimp only at h ⊢); (try simp only [q.1, q.2.1, q.2.2, q10.1, q10.2.1, q10.2.2] at h); exact h
            · exact (hag 15 (.inl rfl)).1 ▸ h
            · exact (hag 16 (.inl rfl)).1 ▸ h
            · exact (hag 17 (.inl rfl)).1 ▸ h
            · exact (hag 18 (.inl rfl)).1 ▸ h
            · exact (hag 19 (.inl rfl)).1 ▸ h
            · have q := hag 20 (.inl rfl)
              have q19 := hag 19 (.inr (Region.dep (by kernel_rfl)))
              (try dsimp only at h ⊢); (try simp only [q.1, q.2.1, q.2.2, q19.1, q19.2.1, q19.2.2] at h); exact h
            · exact (hag 21 (.inl rfl)).1 ▸ h
            · exact (hag 22 (.inl rfl)).1 ▸ h
            · have q := hag 23 (.inl rfl)
              have q19 := hag 19 (.inr (Region.dep (by kernel_rfl)))
              (try dsimp only at h ⊢); (try simp only [q.1, q.2.1, q.2.2, q19.1, q19.2.1, q19.2.2] at h); exact h
            · exact (hag 24 (.inl rfl)).1 ▸ h
            · exact (hag 25 (.inl rfl)).1 ▸ h
            · exact (hag 26 (.inl rfl)).1 ▸ h
            · exact (hag 27 (.inl rfl)).1 ▸ h
            · trivial
          case steps =>
            refine StepsS.cons rfl ?_ (StepsS.cons rfl ?_ (StepsS.cons rfl ?_ (StepsS.cons rfl ?_ (StepsS.cons rfl ?_ (StepsS.cons rfl ?_ (StepsS.cons rfl ?_ (StepsS.cons rfl ?_ (StepsS.cons rfl ?_ (StepsS.cons rfl ?_ (StepsS.cons rfl ?_ (StepsS.cons rfl ?_ (StepsS.cons rfl ?_ (StepsS.cons rfl ?_ (StepsS.cons rfl ?_ (StepsS.cons rfl ?_ (StepsS.cons rfl ?_ (StepsS.cons rfl ?_ (StepsS.cons rfl ?_ (StepsS.cons rfl ?_ (StepsS.cons rfl ?_ (StepsS.cons rfl ?_ (StepsS.cons rfl ?_ (StepsS.cons rfl ?_ (StepsS.cons rfl ?_ (StepsS.cons rfl ?_ (StepsS.cons rfl ?_ (StepsS.cons rfl ?_ StepsS.nil)))))))))))))))))))))))))))
            · rintro v lo hi W hb hS hd
              clear hd
              refine .inl ⟨rfl, ?_⟩
              intro K hK
              dsimp only
              obtain ⟨h, c, g⟩ := hS.at 3 rfl
              have q0 := (g.box.cells 0).1
              have q1 := (g.box.cells 1).1
              have q2 := (g.box.cells 2).1
              have q3 := (g.box.cells 3).1
              go_wp2_with fail
              exact act_cast (hK (perV h c (x : Per).frm (x : Per).period) W (Below.refl _ _) ⟨h, c, rfl, g.is⟩) (by simp [ite_true])
            · rintro v lo hi W hb hS hd
              clear hd
              refine .inl ⟨rfl, ?_⟩
              intro K hK
              dsimp only
              go_wp2_with fail
              exact act_cast (hK (.int .i64 D) W (Below.refl _ _) rfl) (by simp)
            · rintro v lo hi W hb hS hd
              obtain ⟨la0, lb0, D0⟩ := hd 0 (Region.dep (by kernel_rfl))
              have e1 : v 1 = .int .i64 D := (hd 1 (Region.dep (by kernel_rfl))).2.2
              clear hd
              refine .inl ⟨rfl, ?_⟩
              intro K hK
              dsimp only
              (try simp only [e1])
              obtain ⟨h0, c0, e0, s0⟩ := D0
              simp only [e0]
              go_wp2_with (go_at_call 24; refine (has_any h0 c0 x D _ s0 ⟨by omega, by omega⟩ (by omega)).mono ?_; rintro e w9 ⟨he, hb9⟩; rw [HX.out] at he; subst he)
              exact act_cast (hK (.bool true) w9 hb9 rfl) (by simp [e1, e0])
            · rintro v lo hi W hb hS hd
              clear hd
              refine .inl ⟨rfl, ?_⟩
              intro K hK
              dsimp only
              go_wp2_with fail
              exact act_cast (hK (.bool true) W (Below.refl _ _) rfl) (by simp)
            · rintro v lo hi W hb hS hd
              have e3 : v 3 = .bool true := (hd 3 (Region.dep (by kernel_rfl))).2.2
              clear hd
              refine .inl ⟨rfl, ?_⟩
              intro K hK
              dsimp only
              (try simp only [e3])
              go_wp2_with fail
              exact act_cast (hK (.bool true) W (Below.refl _ _) rfl) (by simp [e3])
            · rintro v lo hi W hb hS hd
              have e4 : v 4 = .bool true := (hd 4 (Region.dep (by kernel_rfl))).2.2
              clear hd
              refine .inl ⟨(by show ((match some (v 4) with | some (Value.bool b) => some b | _ => none) == some true) = true; rw [e4]; rfl), ?_⟩
              intro K hK
              dsimp only
              (try simp only [e4])
              go_wp2_with fail
              exact act_cast (hK (.int .i64 at_) W (Below.refl _ _) rfl) (by simp [e4])
            · rintro v lo hi W hb hS hd
              have e4 : v 4 = .bool true := (hd 4 (Region.dep (by kernel_rfl))).2.2
              clear hd
              refine .inl ⟨(by show ((match some (v 4) with | some (Value.bool b) => some b | _ => none) == some true) = true; rw [e4]; rfl), ?_⟩
              intro K hK
              dsimp only
              (try simp only [e4])
              go_wp2_with fail
              exact act_cast (hK (.int .i64 D) W (Below.refl _ _) rfl) (by simp [e4])
            · rintro v lo hi W hb hS hd
              have e4 : v 4 = .bool true := (hd 4 (Region.dep (by kernel_rfl))).2.2
              have e5 : v 5 = .int .i64 at_ := (hd 5 (Region.dep (by kernel_rfl))).2.2
              have e6 : v 6 = .int .i64 D := (hd 6 (Region.dep (by kernel_rfl))).2.2
              clear hd
              refine .inl ⟨(by show ((match some (v 4) with | some (Value.bool b) => some b | _ => none) == some true) = true; rw [e4]; rfl), ?_⟩
              intro K hK
              dsimp only
              (try simp only [e4, e5, e6])
              go_wp2_with fail
              exact act_cast (hK (.bool true) W (Below.refl _ _) rfl) (by simp [e4, e5, e6])
            · rintro v lo hi W hb hS hd
              have e4 : v 4 = .bool true := (hd 4 (Region.dep (by kernel_rfl))).2.2
              have e7 : v 7 = .bool true := (hd 7 (Region.dep (by kernel_rfl))).2.2
              clear hd
              refine .inl ⟨rfl, ?_⟩
              intro K hK
              dsimp only
              (try simp only [e4, e7])
              go_wp2_with fail
              exact act_cast (hK (.bool true) W (Below.refl _ _) rfl) (by simp [e4, e7])
            · rintro v lo hi W hb hS hd
              have e2 : v 2 = .bool true := (hd 2 (Region.dep (by kernel_rfl))).2.2
              have e8 : v 8 = .bool true := (hd 8 (Region.dep (by kernel_rfl))).2.2
              clear hd
              refine .inl ⟨rfl, ?_⟩
              intro K hK
              dsimp only
              (try simp only [e2, e8])
              go_wp2_with fail
              exact act_cast (hK (.bool false) W (Below.refl _ _) rfl) (by simp [e2, e8])
            · rintro v lo hi W hb hS hd
              have e9 : v 9 = .bool false := (hd 9 (Region.dep (by kernel_rfl))).2.2
              clear hd
              refine .inl ⟨rfl, ?_⟩
              intro K hK
              dsimp only
              (try simp only [e9])
              go_wp2_with fail
              exact act_cast (hK (.bool false) W (Below.refl _ _) rfl) (by simp [e9])
            · rintro v lo hi W hb hS hd
              have e10 : v 10 = .bool false := (hd 10 (Region.dep (by kernel_rfl))).2.2
              clear hd
              refine .inl ⟨(by show ((match some (v 10) with | some (Value.bool b) => some b | _ => none) == some false) = true; rw [e10]; rfl), ?_⟩
              intro K hK
              dsimp only
              (try simp only [e10])
              obtain ⟨h, c, g⟩ := hS.at 1 rfl
              have q0 := (g.box.cells 0).1
              have q1 := (g.box.cells 1).1
              have q2 := (g.box.cells 2).1
              have q3 := (g.box.cells 3).1
              go_wp2_with fail
              exact act_cast (hK (perV h c (cu : Per).frm (cu : Per).period) W (Below.refl _ _) ⟨h, c, rfl, g.is⟩) (by simp [e10])
            · rintro v lo hi W hb hS hd
              have e10 : v 10 = .bool false := (hd 10 (Region.dep (by kernel_rfl))).2.2
              clear hd
              refine .inl ⟨(by show ((match some (v 10) with | some (Value.bool b) => some b | _ => none) == some false) = true; rw [e10]; rfl), ?_⟩
              intro K hK
              dsimp only
              (try simp only [e10])
              go_wp2_with fail
              exact act_cast (hK (.int .i64 D) W (Below.refl _ _) rfl) (by simp [e10])
            · rintro v lo hi W hb hS hd
              have e10 : v 10 = .bool false := (hd 10 (Region.dep (by kernel_rfl))).2.2
              obtain ⟨la11, lb11, D11⟩ := hd 11 (Region.dep (by kernel_rfl))
              have e12 : v 12 = .int .i64 D := (hd 12 (Region.dep (by kernel_rfl))).2.2
              clear hd
              refine .inl ⟨(by show ((match some (v 10) with | some (Value.bool b) => some b | _ => none) == some false) = true; rw [e10]; rfl), ?_⟩
              intro K hK
              dsimp only
              (try simp only [e10, e12])
              obtain ⟨h0, c0, e0, s0⟩ := D11
              simp only [e0]
              go_wp2_with (go_at_call 24; refine (has_any h0 c0 cu D _ s0 ⟨by omega, by omega⟩ (by omega)).mono ?_; rintro e w9 ⟨he, hb9⟩; rw [HC.out] at he; subst he)
              exact act_cast (hK (.bool true) w9 hb9 rfl) (by simp [e10, e12, e0])
            · rintro v lo hi W hb hS hd
              have e10 : v 10 = .bool false := (hd 10 (Region.dep (by kernel_rfl))).2.2
              clear hd
              refine .inl ⟨(by show ((match some (v 10) with | some (Value.bool b) => some b | _ => none) == some false) = true; rw [e10]; rfl), ?_⟩
              intro K hK
              dsimp only
              (try simp only [e10])
              obtain ⟨h, c, g⟩ := hS.at 3 rfl
              have q0 := (g.box.cells 0).1
              have q1 := (g.box.cells 1).1
              have q2 := (g.box.cells 2).1
              have q3 := (g.box.cells 3).1
              go_wp2_with fail
              exact act_cast (hK (perV h c (x : Per).frm (x : Per).period) W (Below.refl _ _) ⟨h, c, rfl, g.is⟩) (by simp [e10])
            · rintro v lo hi W hb hS hd
              have e10 : v 10 = .bool false := (hd 10 (Region.dep (by kernel_rfl))).2.2
              clear hd
              refine .inl ⟨(by show ((match some (v 10) with | some (Value.bool b) => some b | _ => none) == some false) = true; rw [e10]; rfl), ?_⟩
              intro K hK
              dsimp only
              (try simp only [e10])
              go_wp2_with fail
              exact act_cast (hK (.int .i64 D) W (Below.refl _ _) rfl) (by simp [e10])
            · rintro v lo hi W hb hS hd
              have e10 : v 10 = .bool false := (hd 10 (Region.dep (by kernel_rfl))).2.2
              obtain ⟨la14, lb14, D14⟩ := hd 14 (Region.dep (by kernel_rfl))
              have e15 : v 15 = .int .i64 D := (hd 15 (Region.dep (by kernel_rfl))).2.2
              clear hd
              refine .inl ⟨(by show ((match some (v 10) with | some (Value.bool b) => some b | _ => none) == some false) = true; rw [e10]; rfl), ?_⟩
              intro K hK
              dsimp only
              (try simp only [e10, e15])
              obtain ⟨h0, c0, e0, s0⟩ := D14
              simp only [e0]
              go_wp2_with (go_at_call 24; refine (has_any h0 c0 x D _ s0 ⟨by omega, by omega⟩ (by omega)).mono ?_; rintro e w9 ⟨he, hb9⟩; rw [HX.out] at he; subst he)
              exact act_cast (hK (.bool true) w9 hb9 rfl) (by simp [e10, e15, e0])
            · rintro v lo hi W hb hS hd
              have e10 : v 10 = .bool false := (hd 10 (Region.dep (by kernel_rfl))).2.2
              have e13 : v 13 = .bool true := (hd 13 (Region.dep (by kernel_rfl))).2.2
              have e16 : v 16 = .bool true := (hd 16 (Region.dep (by kernel_rfl))).2.2
              clear hd
              refine .inl ⟨(by show ((match some (v 10) with | some (Value.bool b) => some b | _ => none) == some false) = true; rw [e10]; rfl), ?_⟩
              intro K hK
              dsimp only
              (try simp only [e10, e13, e16])
              go_wp2_with fail
              exact act_cast (hK (.bool false) W (Below.refl _ _) rfl) (by simp [e10, e13, e16])
            · rintro v lo hi W hb hS hd
              have e10 : v 10 = .bool false := (hd 10 (Region.dep (by kernel_rfl))).2.2
              have e17 : v 17 = .bool false := (hd 17 (Region.dep (by kernel_rfl))).2.2
              clear hd
              refine .inl ⟨rfl, ?_⟩
              intro K hK
              dsimp only
              (try simp only [e10, e17])
              go_wp2_with fail
              exact act_cast (hK (.bool false) W (Below.refl _ _) rfl) (by simp [e10, e17])
            · rintro v lo hi W hb hS hd
              have e18 : v 18 = .bool false := (hd 18 (Region.dep (by kernel_rfl))).2.2
              clear hd
              refine .inl ⟨rfl, ?_⟩
              intro K hK
              dsimp only
              (try simp only [e18])
              go_wp2_with fail
              exact act_cast (hK (.bool false) W (Below.refl _ _) rfl) (by simp [e18])
            · rintro v lo hi W hb hS hd
              have e19 : v 19 = .bool false := (hd 19 (Region.dep (by kernel_rfl))).2.2
              clear hd
              refine .inl ⟨(by show ((match some (v 19) with | some (Value.bool b) => some b | _ => none) == some false) = true; rw [e19]; rfl), ?_⟩
              intro K hK
              dsimp only
              (try simp only [e19])
              obtain ⟨h, c, g⟩ := hS.at 0 rfl
              have q0 := (g.box.cells 0).1
              have q1 := (g.box.cells 1).1
              have q2 := (g.box.cells 2).1
              have q3 := (g.box.cells 3).1
              go_wp2_with fail
              exact act_cast (hK (perV h c (tl : Per).frm (tl : Per).period) W (Below.refl _ _) ⟨h, c, rfl, g.is⟩) (by simp [e19])
            · rintro v lo hi W hb hS hd
              have e19 : v 19 = .bool false := (hd 19 (Region.dep (by kernel_rfl))).2.2
              clear hd
              refine .inl ⟨(by show ((match some (v 19) with | some (Value.bool b) => some b | _ => none) == some false) = true; rw [e19]; rfl), ?_⟩
              intro K hK
              dsimp only
              (try simp only [e19])
              go_wp2_with fail
              exact act_cast (hK (.int .i64 D) W (Below.refl _ _) rfl) (by simp [e19])
            · rintro v lo hi W hb hS hd
              have e19 : v 19 = .bool false := (hd 19 (Region.dep (by kernel_rfl))).2.2
              obtain ⟨la20, lb20, D20⟩ := hd 20 (Region.dep (by kernel_rfl))
              have e21 : v 21 = .int .i64 D := (hd 21 (Region.dep (by kernel_rfl))).2.2
              clear hd
              refine .inl ⟨(by show ((match some (v 19) with | some (Value.bool b) => some b | _ => none) == some false) = true; rw [e19]; rfl), ?_⟩
              intro K hK
              dsimp only
              (try simp only [e19, e21])
              obtain ⟨h0, c0, e0, s0⟩ := D20
              simp only [e0]
              go_wp2_with (go_at_call 24; refine (has_any h0 c0 tl D _ s0 ⟨by omega, by omega⟩ (by omega)).mono ?_; rintro e w9 ⟨he, hb9⟩; rw [HT.out] at he; subst he)
              exact act_cast (hK (.bool true) w9 hb9 rfl) (by simp [e19, e21, e0])
            · rintro v lo hi W hb hS hd
              have e19 : v 19 = .bool false := (hd 19 (Region.dep (by kernel_rfl))).2.2
              clear hd
              refine .inl ⟨(by show ((match some (v 19) with | some (Value.bool b) => some b | _ => none) == some false) = true; rw [e19]; rfl), ?_⟩
              intro K hK
              dsimp only
              (try simp only [e19])
              obtain ⟨h, c, g⟩ := hS.at 3 rfl
              have q0 := (g.box.cells 0).1
              have q1 := (g.box.cells 1).1
              have q2 := (g.box.cells 2).1
              have q3 := (g.box.cells 3).1
              go_wp2_with fail
              exact act_cast (hK (perV h c (x : Per).frm (x : Per).period) W (Below.refl _ _) ⟨h, c, rfl, g.is⟩) (by simp [e19])
            · rintro v lo hi W hb hS hd
              have e19 : v 19 = .bool false := (hd 19 (Region.dep (by kernel_rfl))).2.2
              clear hd
              refine .inl ⟨(by show ((match some (v 19) with | some (Value.bool b) => some b | _ => none) == some false) = true; rw [e19]; rfl), ?_⟩
              intro K hK
              dsimp only
              (try simp only [e19])
              go_wp2_with fail
              exact act_cast (hK (.int .i64 D) W (Below.refl _ _) rfl) (by simp [e19])
            · rintro v lo hi W hb hS hd
              have e19 : v 19 = .bool false := (hd 19 (Region.dep (by kernel_rfl))).2.2
              obtain ⟨la23, lb23, D23⟩ := hd 23 (Region.dep (by kernel_rfl))
              have e24 : v 24 = .int .i64 D := (hd 24 (Region.dep (by kernel_rfl))).2.2
              clear hd
              refine .inl ⟨(by show ((match some (v 19) with | some (Value.bool b) => some b | _ => none) == some false) = true; rw [e19]; rfl), ?_⟩
              intro K hK
              dsimp only
              (try simp only [e19, e24])
              obtain ⟨h0, c0, e0, s0⟩ := D23
              simp only [e0]
              go_wp2_with (go_at_call 24; refine (has_any h0 c0 x D _ s0 ⟨by omega, by omega⟩ (by omega)).mono ?_; rintro e w9 ⟨he, hb9⟩; rw [HX.out] at he; subst he)
              exact act_cast (hK (.bool true) w9 hb9 rfl) (by simp [e19, e24, e0])
            · rintro v lo hi W hb hS hd
              have e19 : v 19 = .bool false := (hd 19 (Region.dep (by kernel_rfl))).2.2
              have e22 : v 22 = .bool true := (hd 22 (Region.dep (by kernel_rfl))).2.2
              have e25 : v 25 = .bool true := (hd 25 (Region.dep (by kernel_rfl))).2.2
              clear hd
              refine .inl ⟨(by show ((match some (v 19) with | some (Value.bool b) => some b | _ => none) == some false) = true; rw [e19]; rfl), ?_⟩
              intro K hK
              dsimp only
              (try simp only [e19, e22, e25])
              go_wp2_with fail
              exact act_cast (hK (.bool false) W (Below.refl _ _) rfl) (by simp [e19, e22, e25])
            · rintro v lo hi W hb hS hd
              have e19 : v 19 = .bool false := (hd 19 (Region.dep (by kernel_rfl))).2.2
              have e26 : v 26 = .bool false := (hd 26 (Region.dep (by kernel_rfl))).2.2
              clear hd
              refine .inl ⟨rfl, ?_⟩
              intro K hK
              dsimp only
              (try simp only [e19, e26])
              go_wp2_with fail
              exact act_cast (hK (.bool false) W (Below.refl _ _) rfl) (by simp [e19, e26])
          case fin =>
            rintro v lo hi W2 hb2 _ hf _
            show wpList _ _ _ [] _ _
            have f27 : v 27 = .bool false := (hf 27 rfl).2.2.2
            clear hf
            dsimp only
            rw [f27]
            clear f27
            generalize v 0 = x0
            generalize v 1 = x1
            generalize v 2 = x2
            generalize v 3 = x3
            generalize v 4 = x4
            generalize v 5 = x5
            generalize v 6 = x6
            generalize v 7 = x7
            generalize v 8 = x8
            generalize v 9 = x9
            generalize v 10 = x10
            generalize v 11 = x11
            generalize v 12 = x12
            generalize v 13 = x13
            generalize v 14 = x14
            generalize v 15 = x15
            generalize v 16 = x16
            generalize v 17 = x17
            generalize v 18 = x18
            generalize v 19 = x19
            generalize v 20 = x20
            generalize v 21 = x21
            generalize v 22 = x22
            generalize v 23 = x23
            generalize v 24 = x24
            generalize v 25 = x25
            generalize v 26 = x26
            have hS2 := hS.below hb2
            clear hS
            obtain ⟨hX, cX, gX⟩ := hS2.at 3 rfl
            have qX0 := (gX.box.cells 0).1
            have qX1 := (gX.box.cells 1).1
            have qX2 := (gX.box.cells 2).1
            have qX3 := (gX.box.cells 3).1
            go_wp2_with (go_at_call 26; refine (next_ok hX cX x (D + 1) _ (gX.is.ext (by (repeat' (with_reducible first | assumption | exact Ext.refl _ | refine Ext.alloc ?_ _ | refine Ext.drew ?_ | refine Ext.drewN ?_ _ | (refine Ext.setCell ?_ (by first | (simp; done) | (simp; omega) | omega) _) | refine Ext.trans ?_ (by assumption))))) (Sx.out.valid (by omega)) (by omega) (by omega)).mono ?_; rintro e uN ⟨n2, b2_, rfl, hN2, kN⟩; rw [show max (D + 1) 0 = D + 1 from by omega] at hN2)
            have HN2 := Lib.hid hN2
            clear hN2
            go_roundw
            case rel => exact ⟨D + 1, n + 1, n2, b2_, by omega, by omega, rfl, rfl, rfl, rfl, by rw [HST.out, HNN.out]; omega, HN2.out, by have hb := HB.out; (repeat' (with_reducible first | assumption | exact Ext.refl _ | refine Ext.alloc ?_ _ | refine Ext.drew ?_ | refine Ext.drewN ?_ _ | (refine Ext.setCell ?_ (by first | (simp; done) | (simp; omega) | omega) _) | refine Ext.trans ?_ (by assumption)))⟩
            case measure => simp [intOf]; omega
        · have hno : ¬ x.mem D := HN'.out.apart hat
          have HNX : Hid (NextIs x.mem (D + 1) at_ true) := Lib.hid (HN'.out.skip hno)
          have HST : Hid (belowI x (D + 1) = belowI x D) := Lib.hid (by rw [hst, if_neg hno]; omega)
          obtain rfl : P = false := by
            cases P
            · rfl
            · exact absurd (hPm.1 rfl) hno
          have hae : (at_ == D) = false := by simp [hat]
          clear hP hPm hst hno hat
          go_wp2_with fail
          refine wp_region_factsS (w0 := wr) [0, 1, 2, 3, 4, 5, 6, 7, 8, 9, 10, 11, 12, 13, 14, 15, 16, 17, 18, 19, 20, 21, 22, 23, 24, 25, 26, 27] [] (fun v => ⟨#[Value.agg #[Value.slice a1a hla.length c1a, Value.int IntKind.u8 fa, Value.int IntKind.u8 ta, Value.slice a2a cla.length c2a], Value.agg #[Value.slice a1b hlb.length c1b, Value.int IntKind.u8 fb, Value.int IntKind.u8 tb, Value.slice a2b clb.length c2b], Value.agg #[Value.int IntKind.u8 w0, Value.int IntKind.u8 w1], Value.pointer (some { block := w.heap.size, off := 0 }), Value.pointer (some { block := w.heap.size + 1, off := 0 }), Value.pointer (some { block := w.heap.size + 1 + 1, off := 0 }), u6, Value.bool true, Value.pointer (some { block := b2, off := 0 }), Value.pointer (some { block := b3, off := 0 }), Value.int IntKind.i64 fr, Value.int IntKind.i64 to, Value.pointer (some { block := b6, off := 0 }), Value.int IntKind.i64 0, Value.pointer (some { block := b7, off := 0 }), Value.int IntKind.i64 0, Value.int IntKind.i64 n, Value.int IntKind.i64 at_, Value.bool true, Value.int IntKind.i64 D, undef, undef, undef, undef, undef, undef, undef, undef, undef, undef, undef, undef, undef, undef, undef, undef, Value.bool true, Value.agg #[Value.slice a1a hla.length c1a, Value.int IntKind.u8 fa, Value.int IntKind.u8 ta, Value.slice a2a cla.length c2a], perV (Value.slice x1_2 x.head.length y1_2) (Value.slice x2_2 x.cycle.length y2_2) x.frm x.period, Value.agg #[Value.slice a1b hlb.length c1b, Value.int IntKind.u8 fb, Value.int IntKind.u8 tb, Value.slice a2b clb.length c2b], perV (Value.slice x1_3 y.head.length y1_3) (Value.slice x2_3 y.cycle.length y2_3) y.frm y.period, Value.pointer (some { block := w.heap.size + 1 + 1, off := 0 }), Value.int IntKind.u8 w0, Value.int IntKind.i64 w0, Value.int IntKind.i64 fr, Value.int IntKind.i64 fr, Value.pointer (some { block := w.heap.size + 1 + 1, off := 1 }), Value.int IntKind.u8 w1, Value.int IntKind.i64 w1, Value.int IntKind.i64 sz, Value.int IntKind.i64 to, Value.tuple #[perV (Value.slice x1_6 cu.head.length y1_6) (Value.slice x2_6 cu.cycle.length y2_6) cu.frm cu.period, Value.int IntKind.i64 0], Value.agg #[hA_6, Value.int IntKind.i64 x.frm, Value.int IntKind.i64 x.period, cA_6], Value.int IntKind.i64 fr, Value.int IntKind.i64 to, Value.tuple #[perV (Value.slice x1_6 cu.head.length y1_6) (Value.slice x2_6 cu.cycle.length y2_6) cu.frm cu.period, Value.int IntKind.i64 0], perV (Value.slice x1_6 cu.head.length y1_6) (Value.slice x2_6 cu.cycle.length y2_6) cu.frm cu.period, Value.int IntKind.i64 0, Value.tuple #[perV (Value.slice x1_7 tl.head.length y1_7) (Value.slice x2_7 tl.cycle.length y2_7) tl.frm tl.period, Value.int IntKind.i64 0], Value.agg #[hA_7, Value.int IntKind.i64 x.frm, Value.int IntKind.i64 x.period, cA_7], Value.int IntKind.i64 fr, Value.tuple #[perV (Value.slice x1_7 tl.head.length y1_7) (Value.slice x2_7 tl.cycle.length y2_7) tl.frm tl.period, Value.int IntKind.i64 0], perV (Value.slice x1_7 tl.head.length y1_7) (Value.slice x2_7 tl.cycle.length y2_7) tl.frm tl.period, Value.int IntKind.i64 0, Value.int IntKind.i64 0, Value.bool false, Value.bool false, Value.int IntKind.i64 0, Value.bool false, Value.bool false, Value.bool false, Value.agg #[hA_8, Value.int IntKind.i64 cu.frm, Value.int IntKind.i64 cu.period, cA_8], Value.bool true, Value.bool false, Value.bool false, Value.tuple #[Value.int IntKind.i64 nn, Value.bool nb], Value.agg #[hA_11, Value.int IntKind.i64 x.frm, Value.int IntKind.i64 x.period, cA_11], Value.int IntKind.i64 fr, Value.tuple #[Value.int IntKind.i64 nn, Value.bool nb], Value.int IntKind.i64 nn, Value.bool nb, Value.int IntKind.i64 fr, Value.int IntKind.i64 D, Value.int IntKind.i64 to, Value.bool true, u85, u86, v 0, v 1, v 2, v 3, v 4, v 5, v 6, v 7, v 8, v 9, v 10, v 11, v 12, v 13, v 14, v 15, v 16, v 17, v 18, v 19, v 20, v 21, v 22, v 23, v 24, v 25, v 26, v 27, u115, u116, u117, u118, u119, u120, u121, u122, u123, u124, u125, u126, u127, u128, u129, undef, undef, undef, undef, undef, undef, undef, undef, undef, undef, undef, undef, undef, undef, undef, undef, undef, undef, undef, undef, undef, undef, undef, undef, undef, undef, undef, undef, undef, undef, undef, undef, undef, undef, undef, undef, undef, undef, undef, undef, undef, undef, undef, undef, undef, undef, undef, undef, undef, undef, undef, undef, undef, undef, undef, undef, undef, undef, undef, undef, undef, undef, undef, undef, undef, undef, undef, undef, undef, undef, undef, undef, undef, undef, undef, undef, undef, undef, undef, undef, undef, undef, undef, undef, undef, undef, undef, undef, undef, undef, undef, undef, undef, undef, undef, undef, undef, undef, undef, undef, undef, undef, undef, undef, undef, undef, undef, undef, undef, undef, undef, undef, undef, undef, undef, undef, undef, undef, undef, undef, undef, undef, undef, undef, undef, undef, undef, undef], []⟩) (fun j => match j with | 0 => u87 | 1 => u88 | 2 => u89 | 3 => u90 | 4 => u91 | 5 => u92 | 6 => u93 | 7 => u94 | 8 => u95 | 9 => u96 | 10 => u97 | 11 => u98 | 12 => u99 | 13 => u100 | 14 => u101 | 15 => u102 | 16 => u103 | 17 => u104 | 18 => u105 | 19 => u106 | 20 => u107 | 21 => u108 | 22 => u109 | 23 => u110 | 24 => u111 | 25 => u112 | 26 => u113 | 27 => u114 | _ => undef)
            (fun i v lo hi W => match i with
              | 0 => SetV W (v 0) x
              | 1 => v 1 = .int .i64 D
              | 2 => v 2 = .bool false
              | 3 => v 3 = .bool true
              | 4 => v 4 = .bool true
              | 5 => v 5 = .int .i64 at_
              | 6 => v 6 = .int .i64 D
              | 7 => v 7 = .bool false
              | 8 => v 8 = .bool false
              | 9 => v 9 = .bool false
              | 10 => v 10 = .bool false
              | 11 => SetV W (v 11) cu
              | 12 => v 12 = .int .i64 D
              | 13 => v 13 = .bool false
              | 14 => SetV W (v 14) x
              | 15 => v 15 = .int .i64 D
              | 16 => v 16 = .bool false
              | 17 => v 17 = .bool false
              | 18 => v 18 = .bool false
              | 19 => v 19 = .bool false
              | 20 => SetV W (v 20) tl
              | 21 => v 21 = .int .i64 D
              | 22 => v 22 = .bool false
              | 23 => SetV W (v 23) x
              | 24 => v 24 = .int .i64 D
              | 25 => v 25 = .bool false
              | 26 => v 26 = .bool false
              | 27 => v 27 = .bool false
              | _ => True)
            (fun W => Sets W [(b7, tl), (b6, cu), (b3, y), (b2, x)]) rfl (by kernel_rfl) (by decide) rfl ?stab ?loc (fun W hb => hS.below hb) ?steps ?fin
          case stab =>
            rintro (_ | _ | _ | _ | _ | _ | _ | _ | _ | _ | _ | _ | _ | _ | _ | _ | _ | _ | _ | _ | _ | _ | _ | _ | _ | _ | _ | _ | i) v lo hi W W' h hb
            · exact h.below hb
            · exact h
            · exact h
            · exact h
            · exact h
            · exact h
            · exact h
            · exact h
            · exact h
            · exact h
            · exact h
            · exact h.below hb
            · exact h
            · exact h
            · exact h.below hb
            · exact h
            · exact h
            · exact h
            · exact h
            · exact h
            · exact h.below hb
            · exact h
            · exact h
            · exact h.below hb
            · exact h
            · exact h
            · exact h
            · exact h
            · trivial
          case loc =>
            rintro (_ | _ | _ | _ | _ | _ | _ | _ | _ | _ | _ | _ | _ | _ | _ | _ | _ | _ | _ | _ | _ | _ | _ | _ | _ | _ | _ | _ | i) v v' lo lo' hi hi' W hag h
            · have q := hag 0 (.inl rfl)
              (try dsimp only at h ⊢); (try simp only [q.1, q.2.1, q.2.2] at h); exact h
            · exact (hag 1 (.inl rfl)).1 ▸ h
            · exact (hag 2 (.inl rfl)).1 ▸ h
            · exact (hag 3 (.inl rfl)).1 ▸ h
            · exact (hag 4 (.inl rfl)).1 ▸ h
            · exact (hag 5 (.inl rfl)).1 ▸ h
            · exact (hag 6 (.inl rfl)).1 ▸ h
            · exact (hag 7 (.inl rfl)).1 ▸ h
            · exact (hag 8 (.inl rfl)).1 ▸ h
            · exact (hag 9 (.inl rfl)).1 ▸ h
            · exact (hag 10 (.inl rfl)).1 ▸ h
            · have q := hag 11 (.inl rfl)
              have q10 := hag 10 (.inr (Region.dep (by kernel_rfl)))
              (try dsimp only at h ⊢); (try simp only [q.1, q.2.1, q.2.2, q10.1, q10.2.1, q10.2.2] at h); exact h
            · exact (hag 12 (.inl rfl)).1 ▸ h
            · exact (hag 13 (.inl rfl)).1 ▸ h
            · have q := hag 14 (.inl rfl)
              have q10 := hag 10 (.inr (Region.dep (by kernel_rfl)))
              (try dsimp only at h ⊢); (try simp only [q.1, q.2.1, q.2.2, q10.1, q10.2.1, q10.2.2] at h); exact h
            · exact (hag 15 (.inl rfl)).1 ▸ h
            · exact (hag 16 (.inl rfl)).1 ▸ h
            · exact (hag 17 (.inl rfl)).1 ▸ h
            · exact (hag 18 (.inl rfl)).1 ▸ h
            · exact (hag 19 (.inl rfl)).1 ▸ h
            · have q := hag 20 (.inl rfl)
              have q19 := hag 19 (.inr (Region.dep (by kernel_rfl)))
              (try dsimp only at h ⊢); (try simp only [q.1, q.2.1, q.2.2, q19.1, q19.2.1, q19.2.2] at h); exact h
            · exact (hag 21 (.inl rfl)).1 ▸ h
            · exact (hag 22 (.inl rfl)).1 ▸ h
            · have q := hag 23 (.inl rfl)
              have q19 := hag 19 (.inr (Region.dep (by kernel_rfl)))
              (try dsimp only at h ⊢); (try simp only [q.1, q.2.1, q.2.2, q19.1, q19.2.1, q19.2.2] at h); exact h
            · exact (hag 24 (.inl rfl)).1 ▸ h
            · exact (hag 25 (.inl rfl)).1 ▸ h
            · exact (hag 26 (.inl rfl)).1 ▸ h
            · exact (hag 27 (.inl rfl)).1 ▸ h
            · trivial
          case steps =>
            refine StepsS.cons rfl ?_ (StepsS.cons rfl ?_ (StepsS.cons rfl ?_ (StepsS.cons rfl ?_ (StepsS.cons rfl ?_ (StepsS.cons rfl ?_ (StepsS.cons rfl ?_ (StepsS.cons rfl ?_ (StepsS.cons rfl ?_ (StepsS.cons rfl ?_ (StepsS.cons rfl ?_ (StepsS.cons rfl ?_ (StepsS.cons rfl ?_ (StepsS.cons rfl ?_ (StepsS.cons rfl ?_ (StepsS.cons rfl ?_ (StepsS.cons rfl ?_ (StepsS.cons rfl ?_ (StepsS.cons rfl ?_ (StepsS.cons rfl ?_ (StepsS.cons rfl ?_ (StepsS.cons rfl ?_ (StepsS.cons rfl ?_ (StepsS.cons rfl ?_ (StepsS.cons rfl ?_ (StepsS.cons rfl ?_ (StepsS.cons rfl ?_ (StepsS.cons rfl ?_ StepsS.nil)))))))))))))))))))))))))))
            · rintro v lo hi W hb hS hd
              clear hd
              refine .inl ⟨rfl, ?_⟩
              intro K hK
              dsimp only
              obtain ⟨h, c, g⟩ := hS.at 3 rfl
              have q0 := (g.box.cells 0).1
              have q1 := (g.box.cells 1).1
              have q2 := (g.box.cells 2).1
              have q3 := (g.box.cells 3).1
              go_wp2_with fail
              exact act_cast (hK (perV h c (x : Per).frm (x : Per).period) W (Below.refl _ _) ⟨h, c, rfl, g.is⟩) (by simp [ite_true])
            · rintro v lo hi W hb hS hd
              clear hd
              refine .inl ⟨rfl, ?_⟩
              intro K hK
              dsimp only
              go_wp2_with fail
              exact act_cast (hK (.int .i64 D) W (Below.refl _ _) rfl) (by simp)
            · rintro v lo hi W hb hS hd
              obtain ⟨la0, lb0, D0⟩ := hd 0 (Region.dep (by kernel_rfl))
              have e1 : v 1 = .int .i64 D := (hd 1 (Region.dep (by kernel_rfl))).2.2
              clear hd
              refine .inl ⟨rfl, ?_⟩
              intro K hK
              dsimp only
              (try simp only [e1])
              obtain ⟨h0, c0, e0, s0⟩ := D0
              simp only [e0]
              go_wp2_with (go_at_call 24; refine (has_any h0 c0 x D _ s0 ⟨by omega, by omega⟩ (by omega)).mono ?_; rintro e w9 ⟨he, hb9⟩; rw [HX.out] at he; subst he)
              exact act_cast (hK (.bool false) w9 hb9 rfl) (by simp [e1, e0])
            · rintro v lo hi W hb hS hd
              clear hd
              refine .inl ⟨rfl, ?_⟩
              intro K hK
              dsimp only
              go_wp2_with fail
              exact act_cast (hK (.bool true) W (Below.refl _ _) rfl) (by simp)
            · rintro v lo hi W hb hS hd
              have e3 : v 3 = .bool true := (hd 3 (Region.dep (by kernel_rfl))).2.2
              clear hd
              refine .inl ⟨rfl, ?_⟩
              intro K hK
              dsimp only
              (try simp only [e3])
              go_wp2_with fail
              exact act_cast (hK (.bool true) W (Below.refl _ _) rfl) (by simp [e3])
            · rintro v lo hi W hb hS hd
              have e4 : v 4 = .bool true := (hd 4 (Region.dep (by kernel_rfl))).2.2
              clear hd
              refine .inl ⟨(by show ((match some (v 4) with | some (Value.bool b) => some b | _ => none) == some true) = true; rw [e4]; rfl), ?_⟩
              intro K hK
              dsimp only
              (try simp only [e4])
              go_wp2_with fail
              exact act_cast (hK (.int .i64 at_) W (Below.refl _ _) rfl) (by simp [e4])
            · rintro v lo hi W hb hS hd
              have e4 : v 4 = .bool true := (hd 4 (Region.dep (by kernel_rfl))).2.2
              clear hd
              refine .inl ⟨(by show ((match some (v 4) with | some (Value.bool b) => some b | _ => none) == some true) = true; rw [e4]; rfl), ?_⟩
              intro K hK
              dsimp only
              (try simp only [e4])
              go_wp2_with fail
              exact act_cast (hK (.int .i64 D) W (Below.refl _ _) rfl) (by simp [e4])
            · rintro v lo hi W hb hS hd
              have e4 : v 4 = .bool true := (hd 4 (Region.dep (by kernel_rfl))).2.2
              have e5 : v 5 = .int .i64 at_ := (hd 5 (Region.dep (by kernel_rfl))).2.2
              have e6 : v 6 = .int .i64 D := (hd 6 (Region.dep (by kernel_rfl))).2.2
              clear hd
              refine .inl ⟨(by show ((match some (v 4) with | some (Value.bool b) => some b | _ => none) == some true) = true; rw [e4]; rfl), ?_⟩
              intro K hK
              dsimp only
              (try simp only [e4, e5, e6])
              go_wp2_with fail
              exact act_cast (hK (.bool false) W (Below.refl _ _) rfl) (by simp [e4, e5, e6])
            · rintro v lo hi W hb hS hd
              have e4 : v 4 = .bool true := (hd 4 (Region.dep (by kernel_rfl))).2.2
              have e7 : v 7 = .bool false := (hd 7 (Region.dep (by kernel_rfl))).2.2
              clear hd
              refine .inl ⟨rfl, ?_⟩
              intro K hK
              dsimp only
              (try simp only [e4, e7])
              go_wp2_with fail
              exact act_cast (hK (.bool false) W (Below.refl _ _) rfl) (by simp [e4, e7])
            · rintro v lo hi W hb hS hd
              have e2 : v 2 = .bool false := (hd 2 (Region.dep (by kernel_rfl))).2.2
              have e8 : v 8 = .bool false := (hd 8 (Region.dep (by kernel_rfl))).2.2
              clear hd
              refine .inl ⟨rfl, ?_⟩
              intro K hK
              dsimp only
              (try simp only [e2, e8])
              go_wp2_with fail
              exact act_cast (hK (.bool false) W (Below.refl _ _) rfl) (by simp [e2, e8])
            · rintro v lo hi W hb hS hd
              have e9 : v 9 = .bool false := (hd 9 (Region.dep (by kernel_rfl))).2.2
              clear hd
              refine .inl ⟨rfl, ?_⟩
              intro K hK
              dsimp only
              (try simp only [e9])
              go_wp2_with fail
              exact act_cast (hK (.bool false) W (Below.refl _ _) rfl) (by simp [e9])
            · rintro v lo hi W hb hS hd
              have e10 : v 10 = .bool false := (hd 10 (Region.dep (by kernel_rfl))).2.2
              clear hd
              refine .inl ⟨(by show ((match some (v 10) with | some (Value.bool b) => some b | _ => none) == some false) = true; rw [e10]; rfl), ?_⟩
              intro K hK
              dsimp only
              (try simp only [e10])
              obtain ⟨h, c, g⟩ := hS.at 1 rfl
              have q0 := (g.box.cells 0).1
              have q1 := (g.box.cells 1).1
              have q2 := (g.box.cells 2).1
              have q3 := (g.box.cells 3).1
              go_wp2_with fail
              exact act_cast (hK (perV h c (cu : Per).frm (cu : Per).period) W (Below.refl _ _) ⟨h, c, rfl, g.is⟩) (by simp [e10])
            · rintro v lo hi W hb hS hd
              have e10 : v 10 = .bool false := (hd 10 (Region.dep (by kernel_rfl))).2.2
              clear hd
              refine .inl ⟨(by show ((match some (v 10) with | some (Value.bool b) => some b | _ => none) == some false) = true; rw [e10]; rfl), ?_⟩
              intro K hK
              dsimp only
              (try simp only [e10])
              go_wp2_with fail
              exact act_cast (hK (.int .i64 D) W (Below.refl _ _) rfl) (by simp [e10])
            · rintro v lo hi W hb hS hd
              have e10 : v 10 = .bool false := (hd 10 (Region.dep (by kernel_rfl))).2.2
              obtain ⟨la11, lb11, D11⟩ := hd 11 (Region.dep (by kernel_rfl))
              have e12 : v 12 = .int .i64 D := (hd 12 (Region.dep (by kernel_rfl))).2.2
              clear hd
              refine .inl ⟨(by show ((match some (v 10) with | some (Value.bool b) => some b | _ => none) == some false) = true; rw [e10]; rfl), ?_⟩
              intro K hK
              dsimp only
              (try simp only [e10, e12])
              obtain ⟨h0, c0, e0, s0⟩ := D11
              simp only [e0]
              go_wp2_with (go_at_call 24; refine (has_any h0 c0 cu D _ s0 ⟨by omega, by omega⟩ (by omega)).mono ?_; rintro e w9 ⟨he, hb9⟩; rw [HC.out] at he; subst he)
              exact act_cast (hK (.bool false) w9 hb9 rfl) (by simp [e10, e12, e0])
            · rintro v lo hi W hb hS hd
              have e10 : v 10 = .bool false := (hd 10 (Region.dep (by kernel_rfl))).2.2
              clear hd
              refine .inl ⟨(by show ((match some (v 10) with | some (Value.bool b) => some b | _ => none) == some false) = true; rw [e10]; rfl), ?_⟩
              intro K hK
              dsimp only
              (try simp only [e10])
              obtain ⟨h, c, g⟩ := hS.at 3 rfl
              have q0 := (g.box.cells 0).1
              have q1 := (g.box.cells 1).1
              have q2 := (g.box.cells 2).1
              have q3 := (g.box.cells 3).1
              go_wp2_with fail
              exact act_cast (hK (perV h c (x : Per).frm (x : Per).period) W (Below.refl _ _) ⟨h, c, rfl, g.is⟩) (by simp [e10])
            · rintro v lo hi W hb hS hd
              have e10 : v 10 = .bool false := (hd 10 (Region.dep (by kernel_rfl))).2.2
              clear hd
              refine .inl ⟨(by show ((match some (v 10) with | some (Value.bool b) => some b | _ => none) == some false) = true; rw [e10]; rfl), ?_⟩
              intro K hK
              dsimp only
              (try simp only [e10])
              go_wp2_with fail
              exact act_cast (hK (.int .i64 D) W (Below.refl _ _) rfl) (by simp [e10])
            · rintro v lo hi W hb hS hd
              have e10 : v 10 = .bool false := (hd 10 (Region.dep (by kernel_rfl))).2.2
              obtain ⟨la14, lb14, D14⟩ := hd 14 (Region.dep (by kernel_rfl))
              have e15 : v 15 = .int .i64 D := (hd 15 (Region.dep (by kernel_rfl))).2.2
              clear hd
              refine .inl ⟨(by show ((match some (v 10) with | some (Value.bool b) => some b | _ => none) == some false) = true; rw [e10]; rfl), ?_⟩
              intro K hK
              dsimp only
              (try simp only [e10, e15])
              obtain ⟨h0, c0, e0, s0⟩ := D14
              simp only [e0]
              go_wp2_with (go_at_call 24; refine (has_any h0 c0 x D _ s0 ⟨by omega, by omega⟩ (by omega)).mono ?_; rintro e w9 ⟨he, hb9⟩; rw [HX.out] at he; subst he)
              exact act_cast (hK (.bool false) w9 hb9 rfl) (by simp [e10, e15, e0])
            · rintro v lo hi W hb hS hd
              have e10 : v 10 = .bool false := (hd 10 (Region.dep (by kernel_rfl))).2.2
              have e13 : v 13 = .bool false := (hd 13 (Region.dep (by kernel_rfl))).2.2
              have e16 : v 16 = .bool false := (hd 16 (Region.dep (by kernel_rfl))).2.2
              clear hd
              refine .inl ⟨(by show ((match some (v 10) with | some (Value.bool b) => some b | _ => none) == some false) = true; rw [e10]; rfl), ?_⟩
              intro K hK
              dsimp only
              (try simp only [e10, e13, e16])
              go_wp2_with fail
              exact act_cast (hK (.bool false) W (Below.refl _ _) rfl) (by simp [e10, e13, e16])
            · rintro v lo hi W hb hS hd
              have e10 : v 10 = .bool false := (hd 10 (Region.dep (by kernel_rfl))).2.2
              have e17 : v 17 = .bool false := (hd 17 (Region.dep (by kernel_rfl))).2.2
              clear hd
              refine .inl ⟨rfl, ?_⟩
              intro K hK
              dsimp only
              (try simp only [e10, e17])
              go_wp2_with fail
              exact act_cast (hK (.bool false) W (Below.refl _ _) rfl) (by simp [e10, e17])
            · rintro v lo hi W hb hS hd
              have e18 : v 18 = .bool false := (hd 18 (Region.dep (by kernel_rfl))).2.2
              clear hd
              refine .inl ⟨rfl, ?_⟩
              intro K hK
              dsimp only
              (try simp only [e18])
              go_wp2_with fail
              exact act_cast (hK (.bool false) W (Below.refl _ _) rfl) (by simp [e18])
            · rintro v lo hi W hb hS hd
              have e19 : v 19 = .bool false := (hd 19 (Region.dep (by kernel_rfl))).2.2
              clear hd
              refine .inl ⟨(by show ((match some (v 19) with | some (Value.bool b) => some b | _ => none) == some false) = true; rw [e19]; rfl), ?_⟩
              intro K hK
              dsimp only
              (try simp only [e19])
              obtain ⟨h, c, g⟩ := hS.at 0 rfl
              have q0 := (g.box.cells 0).1
              have q1 := (g.box.cells 1).1
              have q2 := (g.box.cells 2).1
              have q3 := (g.box.cells 3).1
              go_wp2_with fail
              exact act_cast (hK (perV h c (tl : Per).frm (tl : Per).period) W (Below.refl _ _) ⟨h, c, rfl, g.is⟩) (by simp [e19])
            · rintro v lo hi W hb hS hd
              have e19 : v 19 = .bool false := (hd 19 (Region.dep (by kernel_rfl))).2.2
              clear hd
              refine .inl ⟨(by show ((match some (v 19) with | some (Value.bool b) => some b | _ => none) == some false) = true; rw [e19]; rfl), ?_⟩
              intro K hK
              dsimp only
              (try simp only [e19])
              go_wp2_with fail
              exact act_cast (hK (.int .i64 D) W (Below.refl _ _) rfl) (by simp [e19])
            · rintro v lo hi W hb hS hd
              have e19 : v 19 = .bool false := (hd 19 (Region.dep (by kernel_rfl))).2.2
              obtain ⟨la20, lb20, D20⟩ := hd 20 (Region.dep (by kernel_rfl))
              have e21 : v 21 = .int .i64 D := (hd 21 (Region.dep (by kernel_rfl))).2.2
              clear hd
              refine .inl ⟨(by show ((match some (v 19) with | some (Value.bool b) => some b | _ => none) == some false) = true; rw [e19]; rfl), ?_⟩
              intro K hK
              dsimp only
              (try simp only [e19, e21])
              obtain ⟨h0, c0, e0, s0⟩ := D20
              simp only [e0]
              go_wp2_with (go_at_call 24; refine (has_any h0 c0 tl D _ s0 ⟨by omega, by omega⟩ (by omega)).mono ?_; rintro e w9 ⟨he, hb9⟩; rw [HT.out] at he; subst he)
              exact act_cast (hK (.bool false) w9 hb9 rfl) (by simp [e19, e21, e0])
            · rintro v lo hi W hb hS hd
              have e19 : v 19 = .bool false := (hd 19 (Region.dep (by kernel_rfl))).2.2
              clear hd
              refine .inl ⟨(by show ((match some (v 19) with | some (Value.bool b) => some b | _ => none) == some false) = true; rw [e19]; rfl), ?_⟩
              intro K hK
              dsimp only
              (try simp only [e19])
              obtain ⟨h, c, g⟩ := hS.at 3 rfl
              have q0 := (g.box.cells 0).1
              have q1 := (g.box.cells 1).1
              have q2 := (g.box.cells 2).1
              have q3 := (g.box.cells 3).1
              go_wp2_with fail
              exact act_cast (hK (perV h c (x : Per).frm (x : Per).period) W (Below.refl _ _) ⟨h, c, rfl, g.is⟩) (by simp [e19])
            · rintro v lo hi W hb hS hd
              have e19 : v 19 = .bool false := (hd 19 (Region.dep (by kernel_rfl))).2.2
              clear hd
              refine .inl ⟨(by show ((match some (v 19) with | some (Value.bool b) => some b | _ => none) == some false) = true; rw [e19]; rfl), ?_⟩
              intro K hK
              dsimp only
              (try simp only [e19])
              go_wp2_with fail
              exact act_cast (hK (.int .i64 D) W (Below.refl _ _) rfl) (by simp [e19])
            · rintro v lo hi W hb hS hd
              have e19 : v 19 = .bool false := (hd 19 (Region.dep (by kernel_rfl))).2.2
              obtain ⟨la23, lb23, D23⟩ := hd 23 (Region.dep (by kernel_rfl))
              have e24 : v 24 = .int .i64 D := (hd 24 (Region.dep (by kernel_rfl))).2.2
              clear hd
              refine .inl ⟨(by show ((match some (v 19) with | some (Value.bool b) => some b | _ => none) == some false) = true; rw [e19]; rfl), ?_⟩
              intro K hK
              dsimp only
              (try simp only [e19, e24])
              obtain ⟨h0, c0, e0, s0⟩ := D23
              simp only [e0]
              go_wp2_with (go_at_call 24; refine (has_any h0 c0 x D _ s0 ⟨by omega, by omega⟩ (by omega)).mono ?_; rintro e w9 ⟨he, hb9⟩; rw [HX.out] at he; subst he)
              exact act_cast (hK (.bool false) w9 hb9 rfl) (by simp [e19, e24, e0])
            · rintro v lo hi W hb hS hd
              have e19 : v 19 = .bool false := (hd 19 (Region.dep (by kernel_rfl))).2.2
              have e22 : v 22 = .bool false := (hd 22 (Region.dep (by kernel_rfl))).2.2
              have e25 : v 25 = .bool false := (hd 25 (Region.dep (by kernel_rfl))).2.2
              clear hd
              refine .inl ⟨(by show ((match some (v 19) with | some (Value.bool b) => some b | _ => none) == some false) = true; rw [e19]; rfl), ?_⟩
              intro K hK
              dsimp only
              (try simp only [e19, e22, e25])
              go_wp2_with fail
              exact act_cast (hK (.bool false) W (Below.refl _ _) rfl) (by simp [e19, e22, e25])
            · rintro v lo hi W hb hS hd
              have e19 : v 19 = .bool false := (hd 19 (Region.dep (by kernel_rfl))).2.2
              have e26 : v 26 = .bool false := (hd 26 (Region.dep (by kernel_rfl))).2.2
              clear hd
              refine .inl ⟨rfl, ?_⟩
              intro K hK
              dsimp only
              (try simp only [e19, e26])
              go_wp2_with fail
              exact act_cast (hK (.bool false) W (Below.refl _ _) rfl) (by simp [e19, e26])
          case fin =>
            rintro v lo hi W2 hb2 _ hf _
            show wpList _ _ _ [] _ _
            have f27 : v 27 = .bool false := (hf 27 rfl).2.2.2
            clear hf
            dsimp only
            rw [f27]
            clear f27
            generalize v 0 = x0
            generalize v 1 = x1
            generalize v 2 = x2
            generalize v 3 = x3
            generalize v 4 = x4
            generalize v 5 = x5
            generalize v 6 = x6
            generalize v 7 = x7
            generalize v 8 = x8
            generalize v 9 = x9
            generalize v 10 = x10
            generalize v 11 = x11
            generalize v 12 = x12
            generalize v 13 = x13
            generalize v 14 = x14
            generalize v 15 = x15
            generalize v 16 = x16
            generalize v 17 = x17
            generalize v 18 = x18
            generalize v 19 = x19
            generalize v 20 = x20
            generalize v 21 = x21
            generalize v 22 = x22
            generalize v 23 = x23
            generalize v 24 = x24
            generalize v 25 = x25
            generalize v 26 = x26
            go_wp2_with fail
            go_roundw
            case rel => exact ⟨D + 1, n, at_, true, by omega, by omega, rfl, rfl, rfl, rfl, by rw [HST.out]; exact HNN.out, HNX.out, by have hb := HB.out; (repeat' (with_reducible first | assumption | exact Ext.refl _ | refine Ext.alloc ?_ _ | refine Ext.drew ?_ | refine Ext.drewN ?_ _ | (refine Ext.setCell ?_ (by first | (simp; done) | (simp; omega) | omega) _) | refine Ext.trans ?_ (by assumption)))⟩
            case measure => simp [intOf]; omega
    · have hDt : D = to := by omega
      obtain ⟨c1, hc1⟩ : ∃ c1, c1 = belowI x to - belowI x fr := ⟨_, rfl⟩
      have hnc : n = c1 := by rw [hc1, HNN.out, hDt]
      rw [hnc, hDt]
      have HC1 := Lib.hid hc1
      have hS := HS.out.below HB.out
      have hE : Below w.heap.size w wr := by have hb := HB.out; have hE := HE.out; (repeat' (with_reducible first | assumption | exact Ext.refl _ | refine Ext.alloc ?_ _ | refine Ext.drew ?_ | refine Ext.drewN ?_ _ | (refine Ext.setCell ?_ (by first | (simp; done) | (simp; omega) | omega) _) | refine Ext.trans ?_ (by assumption)))
      clear hc1 hnc hDt hlt HN' HNN hD0 hD1
      obtain ⟨o, hqo, hso⟩ := or_ex Sx.out Sy.out
      have Qo := Lib.hid hqo
      have So := Lib.hid hso
      clear hqo hso
      obtain ⟨an, hqan, hsan⟩ := and_ex Sx.out Sy.out
      have Qan := Lib.hid hqan
      have San := Lib.hid hsan
      clear hqan hsan
      obtain ⟨hA_20, cA_20, gA⟩ := hS.at 3 rfl
      have qa0 := (gA.box.cells 0).1
      have qa1 := (gA.box.cells 1).1
      have qa2 := (gA.box.cells 2).1
      have qa3 := (gA.box.cells 3).1
      obtain ⟨hB_20, cB_20, gB⟩ := hS.at 2 rfl
      have qb0 := (gB.box.cells 0).1
      have qb1 := (gB.box.cells 1).1
      have qb2 := (gB.box.cells 2).1
      have qb3 := (gB.box.cells 3).1
      go_upto_region 21 with (go_at_call 21; refine (Or_sm hA_20 cA_20 hB_20 cB_20 x y o 20 12 12 _ (gA.is.ext (by (repeat' (with_reducible first | assumption | exact Ext.refl _ | refine Ext.alloc ?_ _ | refine Ext.drew ?_ | refine Ext.drewN ?_ _ | (refine Ext.setCell ?_ (by first | (simp; done) | (simp; omega) | omega) _) | refine Ext.trans ?_ (by assumption))))) (gB.is.ext (by (repeat' (with_reducible first | assumption | exact Ext.refl _ | refine Ext.alloc ?_ _ | refine Ext.drew ?_ | refine Ext.drewN ?_ _ | (refine Ext.setCell ?_ (by first | (simp; done) | (simp; omega) | omega) _) | refine Ext.trans ?_ (by assumption))))) Sx.out Sy.out (by omega) Qo.out).mono ?_; rintro e uR ⟨hR_20, cR_20, rfl, oR, kR⟩; have sR := oR.is; obtain ⟨x1_20, y1_20, x2_20, y2_20, rfl, rfl⟩ := oR.form; clear oR)
      refine wp_abs (F := fun U => Sets U ((uR.heap.size, o) :: [(b7, tl), (b6, cu), (b3, y), (b2, x)]) ∧ Below w.heap.size w U) ⟨Sets.cons ⟨.slice x1_20 (o : Per).head.length y1_20, .slice x2_20 (o : Per).cycle.length y2_20, by (first | (refine BoxIs.at ?_; simp; done) | (refine (BoxIs.at ?_).alloc _; simp; done) | (refine ((BoxIs.at ?_).alloc _).alloc _; simp; done) | (refine (((BoxIs.at ?_).alloc _).alloc _).alloc _; simp; done) | (refine ((((BoxIs.at ?_).alloc _).alloc _).alloc _).alloc _; simp; done) | (refine (((((BoxIs.at ?_).alloc _).alloc _).alloc _).alloc _).alloc _; simp; done) | (refine ((((((BoxIs.at ?_).alloc _).alloc _).alloc _).alloc _).alloc _).alloc _; simp; done) | (refine (((((((BoxIs.at ?_).alloc _).alloc _).alloc _).alloc _).alloc _).alloc _).alloc _; simp; done) | (refine ((((((((BoxIs.at ?_).alloc _).alloc _).alloc _).alloc _).alloc _).alloc _).alloc _).alloc _; simp; done) | (refine (((((((((BoxIs.at ?_).alloc _).alloc _).alloc _).alloc _).alloc _).alloc _).alloc _).alloc _).alloc _; simp; done) | (refine ((((((((((BoxIs.at ?_).alloc _).alloc _).alloc _).alloc _).alloc _).alloc _).alloc _).alloc _).alloc _).alloc _; simp; done) | (refine (((((((((((BoxIs.at ?_).alloc _).alloc _).alloc _).alloc _).alloc _).alloc _).alloc _).alloc _).alloc _).alloc _).alloc _; simp; done)), sR.ext (by (repeat' (with_reducible first | assumption | exact Ext.refl _ | refine Ext.alloc ?_ _ | refine Ext.drew ?_ | refine Ext.drewN ?_ _ | (refine Ext.setCell ?_ (by first | (simp; done) | (simp; omega) | omega) _) | refine Ext.trans ?_ (by assumption))))⟩ (hS.below (by (repeat' (with_reducible first | assumption | exact Ext.refl _ | refine Ext.alloc ?_ _ | refine Ext.drew ?_ | refine Ext.drewN ?_ _ | (refine Ext.setCell ?_ (by first | (simp; done) | (simp; omega) | omega) _) | refine Ext.trans ?_ (by assumption))))), by (repeat' (with_reducible first | assumption | exact Ext.refl _ | refine Ext.alloc ?_ _ | refine Ext.drew ?_ | refine Ext.drewN ?_ _ | (refine Ext.setCell ?_ (by first | (simp; done) | (simp; omega) | omega) _) | refine Ext.trans ?_ (by assumption)))⟩ ?_
      clear hS hE sR kR gA qa0 qa1 qa2 qa3 gB qb0 qb1 qb2 qb3
      generalize uR.heap.size = b20 at *
      rintro W21 ⟨hS, hE⟩
      obtain ⟨hA_21, cA_21, gA⟩ := hS.at 4 rfl
      have qa0 := (gA.box.cells 0).1
      have qa1 := (gA.box.cells 1).1
      have qa2 := (gA.box.cells 2).1
      have qa3 := (gA.box.cells 3).1
      obtain ⟨hB_21, cB_21, gB⟩ := hS.at 3 rfl
      have qb0 := (gB.box.cells 0).1
      have qb1 := (gB.box.cells 1).1
      have qb2 := (gB.box.cells 2).1
      have qb3 := (gB.box.cells 3).1
      go_upto_region 22 with (go_at_call 22; refine (And_sm hA_21 cA_21 hB_21 cB_21 x y an 20 12 12 _ (gA.is.ext (by (repeat' (with_reducible first | assumption | exact Ext.refl _ | refine Ext.alloc ?_ _ | refine Ext.drew ?_ | refine Ext.drewN ?_ _ | (refine Ext.setCell ?_ (by first | (simp; done) | (simp; omega) | omega) _) | refine Ext.trans ?_ (by assumption))))) (gB.is.ext (by (repeat' (with_reducible first | assumption | exact Ext.refl _ | refine Ext.alloc ?_ _ | refine Ext.drew ?_ | refine Ext.drewN ?_ _ | (refine Ext.setCell ?_ (by first | (simp; done) | (simp; omega) | omega) _) | refine Ext.trans ?_ (by assumption))))) Sx.out Sy.out (by omega) Qan.out).mono ?_; rintro e uR ⟨hR_21, cR_21, rfl, oR, kR⟩; have sR := oR.is; obtain ⟨x1_21, y1_21, x2_21, y2_21, rfl, rfl⟩ := oR.form; clear oR)
      refine wp_abs (F := fun U => Sets U ((uR.heap.size, an) :: [(b20, o), (b7, tl), (b6, cu), (b3, y), (b2, x)]) ∧ Below w.heap.size w U) ⟨Sets.cons ⟨.slice x1_21 (an : Per).head.length y1_21, .slice x2_21 (an : Per).cycle.length y2_21, by (first | (refine BoxIs.at ?_; simp; done) | (refine (BoxIs.at ?_).alloc _; simp; done) | (refine ((BoxIs.at ?_).alloc _).alloc _; simp; done) | (refine (((BoxIs.at ?_).alloc _).alloc _).alloc _; simp; done) | (refine ((((BoxIs.at ?_).alloc _).alloc _).alloc _).alloc _; simp; done) | (refine (((((BoxIs.at ?_).alloc _).alloc _).alloc _).alloc _).alloc _; simp; done) | (refine ((((((BoxIs.at ?_).alloc _).alloc _).alloc _).alloc _).alloc _).alloc _; simp; done) | (refine (((((((BoxIs.at ?_).alloc _).alloc _).alloc _).alloc _).alloc _).alloc _).alloc _; simp; done) | (refine ((((((((BoxIs.at ?_).alloc _).alloc _).alloc _).alloc _).alloc _).alloc _).alloc _).alloc _; simp; done) | (refine (((((((((BoxIs.at ?_).alloc _).alloc _).alloc _).alloc _).alloc _).alloc _).alloc _).alloc _).alloc _; simp; done) | (refine ((((((((((BoxIs.at ?_).alloc _).alloc _).alloc _).alloc _).alloc _).alloc _).alloc _).alloc _).alloc _).alloc _; simp; done) | (refine (((((((((((BoxIs.at ?_).alloc _).alloc _).alloc _).alloc _).alloc _).alloc _).alloc _).alloc _).alloc _).alloc _).alloc _; simp; done)), sR.ext (by (repeat' (with_reducible first | assumption | exact Ext.refl _ | refine Ext.alloc ?_ _ | refine Ext.drew ?_ | refine Ext.drewN ?_ _ | (refine Ext.setCell ?_ (by first | (simp; done) | (simp; omega) | omega) _) | refine Ext.trans ?_ (by assumption))))⟩ (hS.below (by (repeat' (with_reducible first | assumption | exact Ext.refl _ | refine Ext.alloc ?_ _ | refine Ext.drew ?_ | refine Ext.drewN ?_ _ | (refine Ext.setCell ?_ (by first | (simp; done) | (simp; omega) | omega) _) | refine Ext.trans ?_ (by assumption))))), by (repeat' (with_reducible first | assumption | exact Ext.refl _ | refine Ext.alloc ?_ _ | refine Ext.drew ?_ | refine Ext.drewN ?_ _ | (refine Ext.setCell ?_ (by first | (simp; done) | (simp; omega) | omega) _) | refine Ext.trans ?_ (by assumption)))⟩ ?_
      clear hS hE sR kR gA qa0 qa1 qa2 qa3 gB qb0 qb1 qb2 qb3
      generalize uR.heap.size = b21 at *
      rintro W22 ⟨hS, hE⟩
      obtain ⟨hA_22, cA_22, gA⟩ := hS.at 5 rfl
      have qa0 := (gA.box.cells 0).1
      have qa1 := (gA.box.cells 1).1
      have qa2 := (gA.box.cells 2).1
      have qa3 := (gA.box.cells 3).1
      obtain ⟨d1, hd1⟩ : ∃ d1, d1 = belowI x to - belowI x fr := ⟨_, rfl⟩
      have Hd19 := Lib.hid hd1
      clear hd1
      go_upto_region 23 with (go_at_call 30; refine (count_ok hA_22 cA_22 x fr to _ (gA.is.ext (by (repeat' (with_reducible first | assumption | exact Ext.refl _ | refine Ext.alloc ?_ _ | refine Ext.drew ?_ | refine Ext.drewN ?_ _ | (refine Ext.setCell ?_ (by first | (simp; done) | (simp; omega) | omega) _) | refine Ext.trans ?_ (by assumption))))) (Sx.out.valid (by omega)) (by omega) (by omega) (by omega)).mono ?_; rintro e uC ⟨rfl, kC⟩; rw [← Hd19.out])
      refine wp_abs (F := fun U => Sets U [(b21, an), (b20, o), (b7, tl), (b6, cu), (b3, y), (b2, x)] ∧ Below w.heap.size w U) ⟨hS.below (by (repeat' (with_reducible first | assumption | exact Ext.refl _ | refine Ext.alloc ?_ _ | refine Ext.drew ?_ | refine Ext.drewN ?_ _ | (refine Ext.setCell ?_ (by first | (simp; done) | (simp; omega) | omega) _) | refine Ext.trans ?_ (by assumption)))), by (repeat' (with_reducible first | assumption | exact Ext.refl _ | refine Ext.alloc ?_ _ | refine Ext.drew ?_ | refine Ext.drewN ?_ _ | (refine Ext.setCell ?_ (by first | (simp; done) | (simp; omega) | omega) _) | refine Ext.trans ?_ (by assumption)))⟩ ?_
      clear hS hE kC gA qa0 qa1 qa2 qa3
      rintro W23 ⟨hS, hE⟩
      obtain ⟨hA_23, cA_23, gA⟩ := hS.at 4 rfl
      have qa0 := (gA.box.cells 0).1
      have qa1 := (gA.box.cells 1).1
      have qa2 := (gA.box.cells 2).1
      have qa3 := (gA.box.cells 3).1
      obtain ⟨d2, hd2⟩ : ∃ d2, d2 = belowI y to - belowI y fr := ⟨_, rfl⟩
      have Hd29 := Lib.hid hd2
      clear hd2
      go_upto_region 24 with (go_at_call 30; refine (count_ok hA_23 cA_23 y fr to _ (gA.is.ext (by (repeat' (with_reducible first | assumption | exact Ext.refl _ | refine Ext.alloc ?_ _ | refine Ext.drew ?_ | refine Ext.drewN ?_ _ | (refine Ext.setCell ?_ (by first | (simp; done) | (simp; omega) | omega) _) | refine Ext.trans ?_ (by assumption))))) (Sy.out.valid (by omega)) (by omega) (by omega) (by omega)).mono ?_; rintro e uC ⟨rfl, kC⟩; rw [← Hd29.out])
      refine wp_abs (F := fun U => Sets U [(b21, an), (b20, o), (b7, tl), (b6, cu), (b3, y), (b2, x)] ∧ Below w.heap.size w U) ⟨hS.below (by (repeat' (with_reducible first | assumption | exact Ext.refl _ | refine Ext.alloc ?_ _ | refine Ext.drew ?_ | refine Ext.drewN ?_ _ | (refine Ext.setCell ?_ (by first | (simp; done) | (simp; omega) | omega) _) | refine Ext.trans ?_ (by assumption)))), by (repeat' (with_reducible first | assumption | exact Ext.refl _ | refine Ext.alloc ?_ _ | refine Ext.drew ?_ | refine Ext.drewN ?_ _ | (refine Ext.setCell ?_ (by first | (simp; done) | (simp; omega) | omega) _) | refine Ext.trans ?_ (by assumption)))⟩ ?_
      clear hS hE kC gA qa0 qa1 qa2 qa3
      rintro W24 ⟨hS, hE⟩
      obtain ⟨hA_24, cA_24, gA⟩ := hS.at 1 rfl
      have qa0 := (gA.box.cells 0).1
      have qa1 := (gA.box.cells 1).1
      have qa2 := (gA.box.cells 2).1
      have qa3 := (gA.box.cells 3).1
      obtain ⟨d3, hd3⟩ : ∃ d3, d3 = belowI o to - belowI o fr := ⟨_, rfl⟩
      have Hd39 := Lib.hid hd3
      clear hd3
      go_upto_region 25 with (go_at_call 30; refine (count_ok hA_24 cA_24 o fr to _ (gA.is.ext (by (repeat' (with_reducible first | assumption | exact Ext.refl _ | refine Ext.alloc ?_ _ | refine Ext.drew ?_ | refine Ext.drewN ?_ _ | (refine Ext.setCell ?_ (by first | (simp; done) | (simp; omega) | omega) _) | refine Ext.trans ?_ (by assumption))))) (So.out.valid (by omega)) (by omega) (by omega) (by omega)).mono ?_; rintro e uC ⟨rfl, kC⟩; rw [← Hd39.out])
      refine wp_abs (F := fun U => Sets U [(b21, an), (b20, o), (b7, tl), (b6, cu), (b3, y), (b2, x)] ∧ Below w.heap.size w U) ⟨hS.below (by (repeat' (with_reducible first | assumption | exact Ext.refl _ | refine Ext.alloc ?_ _ | refine Ext.drew ?_ | refine Ext.drewN ?_ _ | (refine Ext.setCell ?_ (by first | (simp; done) | (simp; omega) | omega) _) | refine Ext.trans ?_ (by assumption)))), by (repeat' (with_reducible first | assumption | exact Ext.refl _ | refine Ext.alloc ?_ _ | refine Ext.drew ?_ | refine Ext.drewN ?_ _ | (refine Ext.setCell ?_ (by first | (simp; done) | (simp; omega) | omega) _) | refine Ext.trans ?_ (by assumption)))⟩ ?_
      clear hS hE kC gA qa0 qa1 qa2 qa3
      rintro W25 ⟨hS, hE⟩
      obtain ⟨hA_25, cA_25, gA⟩ := hS.at 0 rfl
      have qa0 := (gA.box.cells 0).1
      have qa1 := (gA.box.cells 1).1
      have qa2 := (gA.box.cells 2).1
      have qa3 := (gA.box.cells 3).1
      obtain ⟨d4, hd4⟩ : ∃ d4, d4 = belowI an to - belowI an fr := ⟨_, rfl⟩
      have Hd49 := Lib.hid hd4
      clear hd4
      go_upto_region 26 with (go_at_call 30; refine (count_ok hA_25 cA_25 an fr to _ (gA.is.ext (by (repeat' (with_reducible first | assumption | exact Ext.refl _ | refine Ext.alloc ?_ _ | refine Ext.drew ?_ | refine Ext.drewN ?_ _ | (refine Ext.setCell ?_ (by first | (simp; done) | (simp; omega) | omega) _) | refine Ext.trans ?_ (by assumption))))) (San.out.valid (by omega)) (by omega) (by omega) (by omega)).mono ?_; rintro e uC ⟨rfl, kC⟩; rw [← Hd49.out])
      refine wp_abs (F := fun U => Sets U [(b21, an), (b20, o), (b7, tl), (b6, cu), (b3, y), (b2, x)] ∧ Below w.heap.size w U) ⟨hS.below (by (repeat' (with_reducible first | assumption | exact Ext.refl _ | refine Ext.alloc ?_ _ | refine Ext.drew ?_ | refine Ext.drewN ?_ _ | (refine Ext.setCell ?_ (by first | (simp; done) | (simp; omega) | omega) _) | refine Ext.trans ?_ (by assumption)))), by (repeat' (with_reducible first | assumption | exact Ext.refl _ | refine Ext.alloc ?_ _ | refine Ext.drew ?_ | refine Ext.drewN ?_ _ | (refine Ext.setCell ?_ (by first | (simp; done) | (simp; omega) | omega) _) | refine Ext.trans ?_ (by assumption)))⟩ ?_
      clear hS hE kC gA qa0 qa1 qa2 qa3
      rintro W26 ⟨hS, hE⟩
      obtain ⟨hA_26, cA_26, gA⟩ := hS.at 5 rfl
      have qa0 := (gA.box.cells 0).1
      have qa1 := (gA.box.cells 1).1
      have qa2 := (gA.box.cells 2).1
      have qa3 := (gA.box.cells 3).1
      obtain ⟨d5, hd5⟩ : ∃ d5, d5 = belowI x fr - belowI x 0 := ⟨_, rfl⟩
      have Hd59 := Lib.hid hd5
      clear hd5
      go_upto_region 27 with (go_at_call 30; refine (count_ok hA_26 cA_26 x 0 fr _ (gA.is.ext (by (repeat' (with_reducible first | assumption | exact Ext.refl _ | refine Ext.alloc ?_ _ | refine Ext.drew ?_ | refine Ext.drewN ?_ _ | (refine Ext.setCell ?_ (by first | (simp; done) | (simp; omega) | omega) _) | refine Ext.trans ?_ (by assumption))))) (Sx.out.valid (by omega)) (by omega) (by omega) (by omega)).mono ?_; rintro e uC ⟨rfl, kC⟩; rw [← Hd59.out])
      refine wp_abs (F := fun U => Sets U [(b21, an), (b20, o), (b7, tl), (b6, cu), (b3, y), (b2, x)] ∧ Below w.heap.size w U) ⟨hS.below (by (repeat' (with_reducible first | assumption | exact Ext.refl _ | refine Ext.alloc ?_ _ | refine Ext.drew ?_ | refine Ext.drewN ?_ _ | (refine Ext.setCell ?_ (by first | (simp; done) | (simp; omega) | omega) _) | refine Ext.trans ?_ (by assumption)))), by (repeat' (with_reducible first | assumption | exact Ext.refl _ | refine Ext.alloc ?_ _ | refine Ext.drew ?_ | refine Ext.drewN ?_ _ | (refine Ext.setCell ?_ (by first | (simp; done) | (simp; omega) | omega) _) | refine Ext.trans ?_ (by assumption)))⟩ ?_
      clear hS hE kC gA qa0 qa1 qa2 qa3
      rintro W27 ⟨hS, hE⟩
      obtain ⟨hA_27, cA_27, gA⟩ := hS.at 5 rfl
      have qa0 := (gA.box.cells 0).1
      have qa1 := (gA.box.cells 1).1
      have qa2 := (gA.box.cells 2).1
      have qa3 := (gA.box.cells 3).1
      obtain ⟨d6, hd6⟩ : ∃ d6, d6 = belowI x to - belowI x 0 := ⟨_, rfl⟩
      have Hd69 := Lib.hid hd6
      clear hd6
      go_upto_region 28 with (go_at_call 30; refine (count_ok hA_27 cA_27 x 0 to _ (gA.is.ext (by (repeat' (with_reducible first | assumption | exact Ext.refl _ | refine Ext.alloc ?_ _ | refine Ext.drew ?_ | refine Ext.drewN ?_ _ | (refine Ext.setCell ?_ (by first | (simp; done) | (simp; omega) | omega) _) | refine Ext.trans ?_ (by assumption))))) (Sx.out.valid (by omega)) (by omega) (by omega) (by omega)).mono ?_; rintro e uC ⟨rfl, kC⟩; rw [← Hd69.out])
      refine wp_abs (F := fun U => Sets U [(b21, an), (b20, o), (b7, tl), (b6, cu), (b3, y), (b2, x)] ∧ Below w.heap.size w U) ⟨hS.below (by (repeat' (with_reducible first | assumption | exact Ext.refl _ | refine Ext.alloc ?_ _ | refine Ext.drew ?_ | refine Ext.drewN ?_ _ | (refine Ext.setCell ?_ (by first | (simp; done) | (simp; omega) | omega) _) | refine Ext.trans ?_ (by assumption)))), by (repeat' (with_reducible first | assumption | exact Ext.refl _ | refine Ext.alloc ?_ _ | refine Ext.drew ?_ | refine Ext.drewN ?_ _ | (refine Ext.setCell ?_ (by first | (simp; done) | (simp; omega) | omega) _) | refine Ext.trans ?_ (by assumption)))⟩ ?_
      clear hS hE kC gA qa0 qa1 qa2 qa3
      rintro W28 ⟨hS, hE⟩
      have hb0 := belowI_le Sx.out.wf (n := to) (by omega)
      have hb1 := belowI_le Sx.out.wf (n := fr) (by omega)
      have hb2 := belowI_le Sy.out.wf (n := to) (by omega)
      have hb3 := belowI_le Sy.out.wf (n := fr) (by omega)
      have hb4 := belowI_le So.out.wf (n := to) (by omega)
      have hb5 := belowI_le So.out.wf (n := fr) (by omega)
      have hb6 := belowI_le San.out.wf (n := to) (by omega)
      have hb7 := belowI_le San.out.wf (n := fr) (by omega)
      have hb8 := belowI_le Sx.out.wf (n := 0) (by omega)
      have hoa : belowI x to + belowI y to = belowI o to + belowI an to := or_and_below Sx.out.wf Sy.out.wf So.out.wf San.out.wf Qo.out Qan.out (by omega)
      have hob : belowI x fr + belowI y fr = belowI o fr + belowI an fr := or_and_below Sx.out.wf Sy.out.wf So.out.wf San.out.wf Qo.out Qan.out (by omega)
      have HQ1 : Hid (d1 = c1) := Lib.hid (by rw [Hd19.out, HC1.out])
      have bd1 : -180 ≤ d1 ∧ d1 ≤ 180 := by have := Hd19.out; omega
      have bd2 : -180 ≤ d2 ∧ d2 ≤ 180 := by have := Hd29.out; omega
      have bd3 : -180 ≤ d3 ∧ d3 ≤ 180 := by have := Hd39.out; omega
      have bd4 : -180 ≤ d4 ∧ d4 ≤ 180 := by have := Hd49.out; omega
      have bd5 : -180 ≤ d5 ∧ d5 ≤ 180 := by have := Hd59.out; omega
      have e1 : (d1 == c1) = true := by rw [HQ1.out]; simp
      have e2 : (d1 + d2 == d3 + d4) = true := by rw [beq_iff_eq]; have h1 := Hd19.out; have h2 := Hd29.out; have h3 := Hd39.out; have h4 := Hd49.out; omega
      have e3 : (d5 + d1 == d6) = true := by rw [beq_iff_eq]; have h1 := Hd19.out; have h2 := Hd59.out; have h3 := Hd69.out; omega
      clear hb0 hb1 hb2 hb3 hb4 hb5 hb6 hb7 hb8 hoa hob
      have HCT : Hid ((validB cu && decide (0 ≤ to) && memB cu to) = false) := Lib.hid (by
        rw [Bool.eq_false_iff]; intro h
        simp only [Bool.and_eq_true] at h
        have := (Qcu.out.mem to).1 ((memB_iff (by omega)).1 h.2); omega)
      by_cases hf0 : fr = 0
      · have hfb : (fr == 0) = true := by simp [hf0]
        obtain ⟨hC9, cC9, gC9⟩ := hS.at 3 rfl
        have qC90 := (gC9.box.cells 0).1
        have qC91 := (gC9.box.cells 1).1
        have qC92 := (gC9.box.cells 2).1
        have qC93 := (gC9.box.cells 3).1
        have zC9 := gC9.box.lt
        go_wp2_with (go_at_call 24; refine (has_any hC9 cC9 cu to _ (gC9.is.ext (by (repeat' (with_reducible first | assumption | exact Ext.refl _ | refine Ext.alloc ?_ _ | refine Ext.drew ?_ | refine Ext.drewN ?_ _ | (refine Ext.setCell ?_ (by first | (simp; done) | (simp; omega) | omega) _) | refine Ext.trans ?_ (by assumption))))) ⟨by omega, by omega⟩ (by omega)).mono ?_; rintro e u1 ⟨he, k1⟩; rw [HCT.out] at he; subst he)
        go_ret
        exact ⟨rfl, by (repeat' (with_reducible first | assumption | exact Ext.refl _ | refine Ext.alloc ?_ _ | refine Ext.drew ?_ | refine Ext.drewN ?_ _ | (refine Ext.setCell ?_ (by first | (simp; done) | (simp; omega) | omega) _) | refine Ext.trans ?_ (by assumption)))⟩
      · have hfb : (fr == 0) = false := by simp [hf0]
        have HCF : Hid ((validB cu && decide (0 ≤ fr - 1) && memB cu (fr - 1)) = false) := Lib.hid (by
          rw [Bool.eq_false_iff]; intro h
          simp only [Bool.and_eq_true] at h
          have := (Qcu.out.mem (fr - 1)).1 ((memB_iff (by omega)).1 h.2); omega)
        have HTF : Hid ((validB tl && decide (0 ≤ fr - 1) && memB tl (fr - 1)) = false) := Lib.hid (by
          rw [Bool.eq_false_iff]; intro h
          simp only [Bool.and_eq_true] at h
          have := (Qtl.out.mem (fr - 1)).1 ((memB_iff (by omega)).1 h.2); omega)
        obtain ⟨hC9, cC9, gC9⟩ := hS.at 3 rfl
        have qC90 := (gC9.box.cells 0).1
        have qC91 := (gC9.box.cells 1).1
        have qC92 := (gC9.box.cells 2).1
        have qC93 := (gC9.box.cells 3).1
        have zC9 := gC9.box.lt
        obtain ⟨hT9, cT9, gT9⟩ := hS.at 2 rfl
        have qT90 := (gT9.box.cells 0).1
        have qT91 := (gT9.box.cells 1).1
        have qT92 := (gT9.box.cells 2).1
        have qT93 := (gT9.box.cells 3).1
        have zT9 := gT9.box.lt
        go_wp2_with (first | (go_at_call 24; (with_reducible refine (has_any hC9 cC9 cu (fr - 1) _ (gC9.is.ext (by (repeat' (with_reducible first | assumption | exact Ext.refl _ | refine Ext.alloc ?_ _ | refine Ext.drew ?_ | refine Ext.drewN ?_ _ | (refine Ext.setCell ?_ (by first | (simp; done) | (simp; omega) | omega) _) | refine Ext.trans ?_ (by assumption))))) (inI_of (by omega) (by omega)) (by omega)).mono ?_); rintro e u1 ⟨he, k1⟩; rw [HCF.out] at he; subst he; obtain ⟨kc1, kf1⟩ := bcell k1; (try simp only [World.size_alloc, World.size_drew, size_drewN, World.size_setCell] at kc1 kf1); have yb6_1 : b6 < u1.heap.size := (by have h7 := k1.size; (try simp only [World.size_alloc, World.size_drew, size_drewN, World.size_setCell] at h7); omega); have yb7_1 : b7 < u1.heap.size := (by have h7 := k1.size; (try simp only [World.size_alloc, World.size_drew, size_drewN, World.size_setCell] at h7); omega)) | (go_at_call 24; (with_reducible refine (has_any hT9 cT9 tl (fr - 1) _ (gT9.is.ext (by (repeat' (with_reducible first | assumption | exact Ext.refl _ | refine Ext.alloc ?_ _ | refine Ext.drew ?_ | refine Ext.drewN ?_ _ | (refine Ext.setCell ?_ (by first | (simp; done) | (simp; omega) | omega) _) | refine Ext.trans ?_ (by assumption))))) (inI_of (by omega) (by omega)) (by omega)).mono ?_); rintro e u2 ⟨he, k2⟩; rw [HTF.out] at he; subst he; obtain ⟨kc2, kf2⟩ := bcell k2; (try simp only [World.size_alloc, World.size_drew, size_drewN, World.size_setCell] at kc2 kf2); have yb6_2 : b6 < u2.heap.size := (by have h7 := k2.size; (try simp only [World.size_alloc, World.size_drew, size_drewN, World.size_setCell] at h7); omega); have yb7_2 : b7 < u2.heap.size := (by have h7 := k2.size; (try simp only [World.size_alloc, World.size_drew, size_drewN, World.size_setCell] at h7); omega)) | (go_at_call 24; (with_reducible refine (has_any hC9 cC9 cu to _ (gC9.is.ext (by (repeat' (with_reducible first | assumption | exact Ext.refl _ | refine Ext.alloc ?_ _ | refine Ext.drew ?_ | refine Ext.drewN ?_ _ | (refine Ext.setCell ?_ (by first | (simp; done) | (simp; omega) | omega) _) | refine Ext.trans ?_ (by assumption))))) (inI_of (by omega) (by omega)) (by omega)).mono ?_); rintro e u3 ⟨he, k3⟩; rw [HCT.out] at he; subst he))
        go_ret
        exact ⟨rfl, by (repeat' (with_reducible first | assumption | exact Ext.refl _ | refine Ext.alloc ?_ _ | refine Ext.drew ?_ | refine Ext.drewN ?_ _ | (refine Ext.setCell ?_ (by first | (simp; done) | (simp; omega) | omega) _) | refine Ext.trans ?_ (by assumption)))⟩
end Go.Proofs.Ytjilkhhokkncoaa
