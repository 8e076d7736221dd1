/- As RegH, where an operation may also be passed over (its guard does not hold): its slot is then undef. -/
import Derived.Test.YtjilkhhokkncoaaGreatMK2
set_option linter.unusedVariables false
set_option linter.unusedSimpArgs false
namespace Go
open Go.RowKit
section
variable {P:Program} {ops:Array Oper} {Q:Exit→Act→World→Prop} {md:Region.Mode}
variable {w0:World} {ph tl:List Nat} {fr:(Nat→Value)→Act} {F:Nat→(Nat→Value)→(Nat→Nat)→(Nat→Nat)→World→Prop} {S:World→Prop}
def StepS (P:Program) (md:Region.Mode) (ops:Array Oper) (Q:Exit→Act→World→Prop) (w0:World) (fr:(Nat→Value)→Act) (F:Nat→(Nat→Value)→(Nat→Nat)→(Nat→Nat)→World→Prop) (S:World→Prop) (k:Nat) (o:Oper):Prop:=
 ∀ (v:Nat→Value) (lo hi:Nat→Nat) (W:World),Below w0.heap.size w0 W→S W→(∀ j∈Region.deps md ops k,lo j≤hi j∧hi j≤W.heap.size∧F j v lo hi W)→
  (Region.wanted o (yielded ops (fr v).tmps)=true∧
  ∀ K:Act→World→Prop,(∀ x W',Below W.heap.size W W'→F k (fun j=>if j=k then x else v j) (fun j=>if j=k then W.heap.size else lo j) (fun j=>if j=k then W'.heap.size else hi j) W'→K (fr (fun j=>if j=k then x else v j)) W')→Oper.wp P o (fr v) W K Q) ∨
  (Region.wanted o (yielded ops (fr v).tmps)=false∧
  ∀ K:Act→World→Prop,(∀ x W',Below W.heap.size W W'→F k (fun j=>if j=k then x else v j) (fun j=>if j=k then W.heap.size else lo j) (fun j=>if j=k then W'.heap.size else hi j) W'→K (fr (fun j=>if j=k then x else v j)) W')→K ((fr v).put o.dst undef) W)
def StepsS (P:Program) (md:Region.Mode) (ops:Array Oper) (Q:Exit→Act→World→Prop) (w0:World) (fr:(Nat→Value)→Act) (F:Nat→(Nat→Value)→(Nat→Nat)→(Nat→Nat)→World→Prop) (S:World→Prop):List Nat→Prop
 | []=>True
 | k :: r=>(∀ o,ops[k]? = some o→StepS P md ops Q w0 fr F S k o)∧StepsS P md ops Q w0 fr F S r
theorem StepsS.cons {k:Nat} {o:Oper} {r:List Nat} (e:ops[k]? = some o) (h:StepS P md ops Q w0 fr F S k o) (t:StepsS P md ops Q w0 fr F S r):StepsS P md ops Q w0 fr F S (k :: r):=⟨fun o' e'=>by rw [e] at e';cases e';exact h,t⟩
theorem StepsS.nil:StepsS P md ops Q w0 fr F S []:=trivial
theorem StepsS.get:∀ {l:List Nat},StepsS P md ops Q w0 fr F S l→∀ i∈l,∀ o,ops[i]? = some o→StepS P md ops Q w0 fr F S i o:=by
 intro l
 induction l with
 | nil=>intro _ i hi;simp at hi
 | cons k l ih=>
  intro h i hi
  rcases List.mem_cons.1 hi with rfl|hi
  ·exact h.1
  ·exact ih h.2 i hi
end
end Go
