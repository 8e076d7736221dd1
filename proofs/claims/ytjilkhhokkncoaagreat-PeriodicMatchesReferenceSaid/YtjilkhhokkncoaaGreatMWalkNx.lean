/- Walks: Next (package periodic). -/
import Derived.Test.YtjilkhhokkncoaaGreatMK5
set_option linter.unusedVariables false
set_option linter.unusedSimpArgs false
namespace Go.Proofs.YtjilkhhokkncoaaGreat
open Go.RowKit Go.Shelf Kal
attribute [local go_sem] Oper.semAt_some
def NextIs (S:Int→Prop) (d n:Int) (b:Bool):Prop:=(b=true∧d≤n∧S n∧∀ x,d≤x→x<n→¬ S x)∨(b=false∧n=0∧∀ x,d≤x→¬ S x)
theorem NextIs.unique {S:Int→Prop} {d n m:Int} {a b:Bool} (h1:NextIs S d n a) (h2:NextIs S d m b):n=m∧a=b:=by
 rcases h1 with ⟨rfl,h3,h4,h5⟩|⟨rfl,rfl,h3⟩ <;> rcases h2 with ⟨rfl,k3,k4,k5⟩|⟨rfl,rfl,k3⟩
 ·refine ⟨?_,rfl⟩
  rcases Int.lt_or_le n m with h|h
  ·exact absurd h4 (k5 n h3 h)
  ·rcases Int.lt_or_le m n with h'|h'
   ·exact absurd k4 (h5 m k3 h')
   ·omega
 ·exact absurd h4 (k3 n h3)
 ·exact absurd k4 (h3 m k3)
 ·exact ⟨rfl,rfl⟩
structure NI (w:World) (r1 r2:Nat) (v1 v2:Value) (W:World):Prop where
 below:Below w.heap.size w W
 b1:Bxx W r1 #[v1] 3
 b2:Bxx W r2 #[v2] 4
theorem NI.grow {w:World} {r1 r2:Nat} {v1 v2:Value} {W W':World} {row:Option Nat} (h:NI w r1 r2 v1 v2 W) (hg:W.grownBy W' row)
  (hr:∀ r,row=some r→w.heap.size≤r∧((r≠r1∧r≠r2)∨∃ o:Obj,W.heap[r]? = some o∧o.isCells=false)):NI w r1 r2 v1 v2 W':=by
 have key:∀ {b:Nat} {c:Array Value} {t:TypeId},Bxx W b c t→(b=r1∨b=r2)→Bxx W' b c t:=fun {b c t} hx hbo=>by
  refine (hg.block b hx.lt fun e=>?_).trans hx
  obtain ⟨_,h1|⟨o,ho,hc⟩⟩:=hr b e.symm
  ·rcases hbo with rfl|rfl <;> simp at h1
  ·rw [show W.heap[b]? = _ from hx] at ho;cases ho;cases hc
 exact ⟨h.below.grown hg h.below.size (fun k e=>(hr k e).1),key h.b1 (.inl rfl),key h.b2 (.inr rfl)⟩
end Go.Proofs.YtjilkhhokkncoaaGreat
